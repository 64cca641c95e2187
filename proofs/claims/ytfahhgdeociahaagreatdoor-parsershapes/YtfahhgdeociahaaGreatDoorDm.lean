/- A part of the proof: D36 D37. -/
import Derived.Test.YtfahhgdeociahaaGreatDoorDl
import Derived.Test.YtfahhgdeociahaaGreatDoorDk

set_option linter.unusedVariables false
set_option linter.unusedSimpArgs false
namespace Go.Abs.Z
open Go.Proofs Go.RowKit Pg
set_option linter.unusedVariables false
def AT.kd : AT → Nat
  | .mk kd _ _ _ _ _ => kd
def AT.tx : AT → List UInt8
  | .mk _ tx _ _ _ _ => tx
mutual

def AT.clean : AT → Prop
  | .mk kd _ _ _ _ ks => kd ≠ 1 ∧ cleans ks
def cleans : List AT → Prop
  | [] => True
  | x :: xs => x.clean ∧ cleans xs
end
theorem BqP : ∀ xs : List AT, (∀ x ∈ xs, x.clean) → cleans xs
  | [], _ => trivial
  | x :: xs, h => ⟨h x (by simp), BqP xs fun y hy => h y (by simp [hy])⟩
section
variable (ls : List Tk)
def Gd (x : AT) : Prop := E 34 [(trP ls x).pv] [] (.bool true) [] ∧ x.clean
def Vd (P : Int → Prop) (x : AT) : Prop := P (x.kd : Nat) ∧ Gd ls x
end
section
variable {ls : List Tk}
theorem Bx4 {T : Tr} (wT : T.wf) (hs : T.kids.length < 1000000000) (hk : ∀ i U, T.kids[i]? = some U → E 68 [I T.kind, N i, U.pv] [] (.bool true) [] ∧ E 34 [U.pv] [] (.bool true) []) : ∀ (n j : Nat), j + n = T.kids.length →
    LE m34_0 l34_0 [(1, some (.vptr T.pv)), (5, some (N j))] [] (.exit 0) [(1, some (.vptr T.pv))] []
  | 0, j, h => r34_l0_out1 wT (by omega)
  | n + 1, j, h => by
    have g : T.kids[j]? = some T.kids[j] := List.getElem?_eq_getElem (by omega)
    obtain ⟨h1, h2⟩ := hk j _ g;exact r34_l0_next1 wT (by omega) g h1 g h2 (by omega) (Bx4 wT hs hk n (j + 1) (by omega))
theorem sh_of {T : Tr} (wT : T.wf) (lo hi : Nat) (c0 : 0 ≤ T.kind ∧ T.kind ≠ 1 ∧ T.kind ≤ 29) (h66 : E 66 [T.pv] [] (.bool true) []) (h67 : E 67 [I T.kind] [] (.tuple [N lo, N hi]) []) (hlo : lo ≤ T.kids.length) (hhi : T.kids.length ≤ hi) (hs : T.kids.length < 1000000000)
    (hk : ∀ i U, T.kids[i]? = some U → E 68 [I T.kind, N i, U.pv] [] (.bool true) [] ∧ E 34 [U.pv] [] (.bool true) []) : E 34 [T.pv] [] (.bool true) [] :=
  r34_1 (by omega) c0.2.1 (by omega) h66 h67 wT (by omega) (by omega) (Bx4 wT hs hk T.kids.length 0 (by omega))
theorem tr_kind (x : AT) : (trP ls x).kind = (x.kd : Nat) := by cases x; rfl
theorem tr_text (x : AT) : (trP ls x).text = x.tx := by cases x; rfl
theorem gd_mk {kd f k : Nat} {tx : List UInt8} {b : Bool} {ks : List AT} (lo hi : Nat) (h67 : E 67 [I (kd : Nat)] [] (.tuple [N lo, N hi]) []) (h66 : T66 kd tx) (hk : ∀ i x, ks[i]? = some x → Gd ls x ∧ ∀ U : Tr, U.kind = (x.kd : Nat) → U.text = x.tx → E 68 [I (kd : Nat), N i, U.pv] [] (.bool true) [])
    (hlo : lo ≤ ks.length) (hhi : ks.length ≤ hi) (h1 : kd ≠ 1 := by decide) (h2 : kd ≤ 29 := by decide) (h3 : hi ≤ 4096 := by decide) : Gd ls (.mk kd tx f k b ks) := by
  refine ⟨sh_of (T := trP ls (.mk kd tx f k b ks)) (trP_wf _) lo hi ?_ (h66 _ rfl rfl) h67 ?_ ?_ ?_ fun i U hU => ?_, h1, BqP _ fun x hx => ?_⟩
  · show 0 ≤ ((kd : Nat) : Int) ∧ ((kd : Nat) : Int) ≠ 1 ∧ ((kd : Nat) : Int) ≤ 29; omega
  · show lo ≤ (trPs ls ks).length; rw [AzP]; exact hlo
  · show (trPs ls ks).length ≤ hi; rw [AzP]; exact hhi
  · show (trPs ls ks).length < _; rw [AzP]; omega
  · have hU : (trPs ls ks)[i]? = some U := hU;rw [AkG, List.getElem?_map] at hU
    cases hx : ks[i]? with
    | none => rw [hx] at hU; cases hU
    | some x =>
      rw [hx] at hU;cases hU;obtain ⟨a1, a2⟩ := hk i x hx;exact ⟨a2 _ (tr_kind x) (tr_text x), a1.1⟩
  · obtain ⟨i, hi⟩ := List.mem_iff_getElem?.1 hx;exact (hk i x hi).1.2
theorem AzJ {kd f k : Nat} {tx : List UInt8} {b : Bool} {hi : Nat} (h67 : E 67 [I (kd : Nat)] [] (.tuple [N 0, N hi]) []) (h66 : T66 kd tx) (h1 : kd ≠ 1 := by decide) (h2 : kd ≤ 29 := by decide) (h3 : hi ≤ 4096 := by decide) : Gd ls (.mk kd tx f k b []) :=
  gd_mk 0 hi h67 h66 (fun i x h => by simp at h) (Nat.zero_le _) (Nat.zero_le _) h1 h2 h3
theorem AvS {kd f k : Nat} {tx : List UInt8} {b : Bool} {ks : List AT} {P : Int → Prop} {lo : Nat} (h67 : E 67 [I (kd : Nat)] [] (.tuple [N lo, N 4096]) []) (h66 : T66 kd tx) (h68 : ∀ i, K68 kd i P) (hk : ∀ x ∈ ks, Vd ls P x) (hlo : lo ≤ ks.length) (hhi : ks.length ≤ 4096) (h1 : kd ≠ 1 := by decide) (h2 : kd ≤ 29 := by decide) : Gd ls (.mk kd tx f k b ks) :=
  gd_mk lo 4096 h67 h66 (fun i x h => by
    obtain ⟨a, b⟩ := hk x (List.mem_of_getElem? h);exact ⟨b, fun U hU _ => h68 i U (by rw [hU]; exact a)⟩) hlo hhi h1 h2 (by decide)
theorem Av6 {kd f k : Nat} {tx : List UInt8} {b : Bool} {x : AT} {P : Int → Prop} {lo hi : Nat} (h67 : E 67 [I (kd : Nat)] [] (.tuple [N lo, N hi]) []) (h66 : T66 kd tx) (h68 : K68 kd 0 P) (hx : Vd ls P x) (hlo : lo ≤ 1 := by decide) (hhi : 1 ≤ hi := by decide) (h1 : kd ≠ 1 := by decide) (h2 : kd ≤ 29 := by decide) (h3 : hi ≤ 4096 := by decide) : Gd ls (.mk kd tx f k b [x]) :=
  gd_mk lo hi h67 h66 (fun i y h => by
    match i, h with
    | 0, h => cases h; exact ⟨hx.2, fun U hU _ => h68 U (by rw [hU]; exact hx.1)⟩
    | i + 1, h => simp at h) hlo hhi h1 h2 h3
theorem BxY {kd f k : Nat} {tx : List UInt8} {b : Bool} {x y : AT} {P Q : Int → Prop} (h67 : E 67 [I (kd : Nat)] [] (.tuple [N 2, N 2]) []) (h66 : T66 kd tx) (h68 : K68 kd 0 P) (h68' : K68 kd 1 Q) (hx : Vd ls P x) (hy : Vd ls Q y) (h1 : kd ≠ 1 := by decide) (h2 : kd ≤ 29 := by decide) : Gd ls (.mk kd tx f k b [x, y]) :=
  gd_mk 2 2 h67 h66 (fun i z h => by
    match i, h with
    | 0, h => cases h; exact ⟨hx.2, fun U hU _ => h68 U (by rw [hU]; exact hx.1)⟩
    | 1, h => cases h; exact ⟨hy.2, fun U hU _ => h68' U (by rw [hU]; exact hy.1)⟩
    | i + 2, h => simp at h) (Nat.le_refl _) (Nat.le_refl _) h1 h2 (by decide)
theorem Av5 {kd f k : Nat} {tx : List UInt8} {b : Bool} {x y z : AT} {P Q S : Int → Prop} (h67 : E 67 [I (kd : Nat)] [] (.tuple [N 3, N 3]) []) (h66 : T66 kd tx) (h68 : K68 kd 0 P) (h68' : K68 kd 1 Q) (h68'' : K68 kd 2 S) (hx : Vd ls P x) (hy : Vd ls Q y) (hz : Vd ls S z) (h1 : kd ≠ 1 := by decide) (h2 : kd ≤ 29 := by decide) : Gd ls (.mk kd tx f k b [x, y, z]) :=
  gd_mk 3 3 h67 h66 (fun i u h => by
    match i, h with
    | 0, h => cases h; exact ⟨hx.2, fun U hU _ => h68 U (by rw [hU]; exact hx.1)⟩
    | 1, h => cases h; exact ⟨hy.2, fun U hU _ => h68' U (by rw [hU]; exact hy.1)⟩
    | 2, h => cases h; exact ⟨hz.2, fun U hU _ => h68'' U (by rw [hU]; exact hz.1)⟩
    | i + 3, h => simp at h) (Nat.le_refl _) (Nat.le_refl _) h1 h2 (by decide)
theorem gd_field {f k : Nat} {tx : List UInt8} {b : Bool} {x : AT} (h66 : nameB tx = true) (hx : x.kd = 9) (ht : x.tx = wInt ∨ x.tx = wBool) (hg : Gd ls x) : Gd ls (.mk 4 tx f k b [x]) :=
  gd_mk 1 1 r67_4 (t66_4 h66) (fun i y h => by
    match i, h with
    | 0, h => cases h; exact ⟨hg, fun U hU hT => k68_4 U (by rw [hU, hx]; rfl) (by rw [hT]; exact ht)⟩
    | i + 1, h => simp at h) (Nat.le_refl _) (Nat.le_refl _)
theorem Vd.mono {P Q : Int → Prop} {x : AT} (h : Vd ls P x) (hq : ∀ j, P j → Q j) : Vd ls Q x := ⟨hq _ h.1, h.2⟩
end
abbrev PX (j : Int) : Prop := 20 ≤ j ∧ j ≤ 29
abbrev PZ (j : Int) : Prop := 12 ≤ j ∧ j ≤ 19
abbrev PT (j : Int) : Prop := j = 9 ∨ j = 10 ∨ j = 0
abbrev PD (j : Int) : Prop := j = 3 ∨ j = 5
abbrev PL (j : Int) : Prop := j = 20 ∨ j = 21 ∨ j = 22
def PE : El → Int → Prop
  | .fd => fun j => j = 4
  | .pa => fun j => j = 7 ∨ j = 8
  | .ex => PX
def okW (a : Wd) : Prop := (a.1 = 0 → nameB a.2 = true) ∧ (a.1 = 2 → numB a.2 = true)
section
variable (ls : List Tk) (m : Nat)
def RX : NT → Nat → Rs → Nat → Prop
  | .ex _, _, v, _ => Vd ls PX v.1
  | .lp _ _ x, _, v, _ => Vd ls PX x → Vd ls PX v.1
  | .tl e acc, k, v, k' => (∀ x ∈ acc, Vd ls (PE e) x) → (∀ x ∈ v.2, Vd ls (PE e) x) ∧ v.2.length + k ≤ acc.length + k' ∧ acc.length ≤ v.2.length
  | .bk, _, v, _ => Vd ls (fun j => j = 11) v.1
  | .sts acc, k, v, k' => (∀ x ∈ acc, Vd ls PZ x) → (∀ x ∈ v.2, Vd ls PZ x) ∧ v.2.length + k ≤ acc.length + k'
  | .st, k, v, k' => Vd ls PZ v.1 ∧ k < k'
  | .br, k, v, k' => Vd ls (fun j => j = 14) v.1 ∧ k < k'
  | .pg acc, k, v, k' => (∀ x ∈ acc, Vd ls PD x) → (∀ x ∈ v.2, Vd ls PD x) ∧ v.2.length + k ≤ acc.length + k'
  | .sk _, _, _, _ => True
  | .sp, _, _, _ => True
def Wp (R : Rs → Nat → Prop) : Pg → Nat → Wd → Prop
  | .ret v, k, _ => R v k
  | .look f, k, a => ∀ b, Wp R (f a b k) k a
  | .read p, k, _ => ∀ a', okW a' → Wp R p (k + 1) a'
  | .report _ _ _, _, _ => True
  | .call x f, k, _ => ∀ v k' a', k ≤ k' → k' ≤ m → RX ls x k v k' → okW a' → Wp R (f v) k' a'
def WpA (R : Rs → Nat → Prop) (k0 : Nat) (p : Pg) : Prop := ∀ k a, k0 ≤ k → okW a → Wp ls m R p k a
end
section
variable {ls : List Tk} {m : Nat} {w : Nat → Wd} {c : NT → Nat → List AD → Ans3}
theorem wpP (hm : DM c) (hw : ∀ k, okW (w k)) (hc : ∀ x k v k1, c x k [] = some (v, k1, []) → k1 ≤ m → RX ls x k v k1) {R : Rs → Nat → Prop} :
    ∀ (p : Pg) k v k1, runP w c p k [] = some (v, k1, []) → k1 ≤ m → Wp ls m R p k (w k) → R v k1 := by
  intro p
  induction p with
  | ret v => intro k v k1 h _ hp; cases h; exact hp
  | look f ih => intro k v k1 h h1 hp; exact ih _ _ _ _ _ _ h h1 (hp _)
  | read p ih =>
    intro k v k1 h h1 hp;simp only [runP] at h
    split at h
    · cases h
    · exact ih _ _ _ h h1 (hp _ (hw _))
  | report e t p ih => intro k v k1 h _ _; exact absurd (dm_nil hm (p := p) h) (rp_ne _ _ _ _)
  | call x f ih =>
    intro k v k1 h h1 hp;simp only [runP] at h;obtain ⟨⟨u, k2, D2⟩, g1, g2⟩ := Option.bind_eq_some_iff.1 h;dsimp only at g2;have := dm_nil hm g2;subst this;have h2 : k ≤ k2 := (hm _ _ _ _ _ _ g1).1;have h3 : k2 ≤ k1 := (AvL hm _ _ _ _ _ _ g2).1;exact ih _ _ _ _ g2 h1 (hp u k2 _ h2 (by omega) (hc _ _ _ _ g1 (by omega)) (hw _))
variable {R : Rs → Nat → Prop} {k0 : Nat} {p q : Pg}
theorem WpA.mono {k1 : Nat} (h : WpA ls m R k0 p) (hk : k0 ≤ k1) : WpA ls m R k1 p := fun k a h1 ha => h k a (by omega) ha
theorem WpA.ret {v : Rs} (h : ∀ k, k0 ≤ k → R v k) : WpA ls m R k0 (.ret v) := fun k _ hk _ => h k hk
theorem WpA.rea (h : WpA ls m R (k0 + 1) p) : WpA ls m R k0 (.read p) := fun k a hk ha a' ha' => h (k + 1) a' (by omega) ha'
theorem WpA.rep {e : Nat} {t : List UInt8} : WpA ls m R k0 (.report e t p) := fun _ _ _ _ => trivial
theorem WpA.ite {P : Prop} [Decidable P] (hp : WpA ls m R k0 p) (hq : WpA ls m R k0 q) : WpA ls m R k0 (if P then p else q) := by split <;> assumption
theorem WpA.ifW {ws : List (List UInt8)} (hp : WpA ls m R k0 p) (hq : WpA ls m R k0 q) : WpA ls m R k0 (Pg.ifW ws p q) := fun k a hk ha b => WpA.ite hp hq k a hk ha
theorem WpA.ifK {j : Nat} (hp : WpA ls m R k0 p) (hq : WpA ls m R k0 q) : WpA ls m R k0 (Pg.ifK j p q) := fun k a hk ha b => WpA.ite hp hq k a hk ha
theorem WpA.ac {ws : List (List UInt8)} (hp : WpA ls m R (k0 + 1) p) (hq : WpA ls m R k0 q) : WpA ls m R k0 (Pg.ifW ws (.read p) q) := WpA.ifW (WpA.rea hp) hq
theorem WpA.mrk {g : Nat → Pg} (h : ∀ f, WpA ls m R k0 (g f)) : WpA ls m R k0 (Pg.mrk g) := fun k a hk ha b => h k k a hk ha
theorem WpA.xp {x : List UInt8} (h : WpA ls m R (k0 + 1) p) : WpA ls m R k0 (Pg.xp x p) := WpA.ac h WpA.rep
theorem WpA.rd {g : List UInt8 → Pg} (h : ∀ x, WpA ls m R (k0 + 1) (g x)) : WpA ls m R k0 (Pg.rd g) := fun k a hk ha b => WpA.rea (h _) k a hk ha
theorem WpA.rdW {ws : List (List UInt8)} {g : List UInt8 → Pg} (h : ∀ x, ws.contains x = true → WpA ls m R (k0 + 1) (g x)) (hq : WpA ls m R k0 q) : WpA ls m R k0 (Pg.ifW ws (Pg.rd g) q) := fun k a hk ha b => by
  dsimp only;split
  · rename_i hc;exact fun b => WpA.rea (h _ hc) k a hk ha
  · exact hq k a hk ha
theorem WpA.rdW2 {ws : List (List UInt8)} {g : Nat → List UInt8 → Pg} (h : ∀ f x, ws.contains x = true → WpA ls m R (k0 + 1) (g f x)) (hq : WpA ls m R k0 q) : WpA ls m R k0 (Pg.ifW ws (Pg.mrk fun f => Pg.rd (g f)) q) := fun k a hk ha b => by
  dsimp only;split
  · rename_i hc;exact fun b b' => WpA.rea (h _ _ hc) k a hk ha
  · exact hq k a hk ha
theorem WpA.rdK0 {g : List UInt8 → Pg} (h : ∀ x, nameB x = true → WpA ls m R (k0 + 1) (g x)) (hq : WpA ls m R k0 q) : WpA ls m R k0 (Pg.ifK 0 (Pg.rd g) q) := fun k a hk ha b => by
  dsimp only;split
  · rename_i hc;exact fun b => WpA.rea (h _ (ha.1 hc)) k a hk ha
  · exact hq k a hk ha
theorem WpA.rdK2 {g : List UInt8 → Pg} (h : ∀ x, numB x = true → WpA ls m R (k0 + 1) (g x)) (hq : WpA ls m R k0 q) : WpA ls m R k0 (Pg.ifK 2 (Pg.rd g) q) := fun k a hk ha b => by
  dsimp only;split
  · rename_i hc;exact fun b => WpA.rea (h _ (ha.2 hc)) k a hk ha
  · exact hq k a hk ha
theorem WpA.nm {g : List UInt8 → Pg} (h : ∀ x, nameB x = true → WpA ls m R (k0 + 1) (g x)) : WpA ls m R k0 (Pg.nm g) := WpA.rdK0 h WpA.rep
theorem WpA.num {g : List UInt8 → Pg} (h : ∀ x, numD x = true → WpA ls m R (k0 + 1) (g x)) : WpA ls m R k0 (Pg.num g) := WpA.rdK2 (fun x hx => h _ (numD_dgt hx)) WpA.rep
theorem WpA.bd {kd f : Nat} {tx : List UInt8} {b : Bool} {ks : List AT} {g : AT → Pg} {Q : AT → Prop} (hQ : ∀ k, Q (.mk kd tx f k b ks)) (h : ∀ x, Q x → WpA ls m R k0 (g x)) : WpA ls m R k0 (Pg.bd kd tx f b ks g) := fun k a hk ha _ => h _ (hQ k) k a hk ha
theorem WpA.nod {kd f : Nat} {tx : List UInt8} {ks : List AT} (h : ∀ k k', k0 ≤ k' → R (.mk kd tx f k true ks, []) k') : WpA ls m R k0 (Pg.nod kd tx f ks) := fun k a hk ha _ => h k k hk
theorem WpA.ex {L : Nat} {g : AT → Pg} (h : ∀ x, Vd ls PX x → WpA ls m R k0 (g x)) : WpA ls m R k0 (Pg.cl (.ex L) g) := fun k a hk ha v k' a' h1 h2 hv ha' => h v.1 hv k' a' (by omega) ha'
theorem WpA.blk {g : AT → Pg} (h : ∀ x, Vd ls (fun j => j = 11) x → WpA ls m R k0 (g x)) : WpA ls m R k0 (Pg.cl .bk g) := fun k a hk ha v k' a' h1 h2 hv ha' => h v.1 hv k' a' (by omega) ha'
theorem WpA.nop {g : AT → Pg} (h : ∀ x, Vd ls PT x → WpA ls m R k0 (g x)) : WpA ls m R k0 (Pg.nop g) := WpA.mrk fun f => WpA.bd (Q := Vd ls PT) (fun k => ⟨.inr (.inr rfl), AzJ r67_0 t66_0⟩) h
theorem WpA.nop0 {g : AT → Pg} (h : ∀ x, Vd ls (fun j => j = 0) x → WpA ls m R k0 (g x)) : WpA ls m R k0 (Pg.nop g) := WpA.mrk fun f => WpA.bd (Q := Vd ls fun j => j = 0) (fun k => ⟨rfl, AzJ r67_0 t66_0⟩) h
theorem WpA.written {g : AT → Pg} (h : ∀ x, Vd ls PT x → WpA ls m R k0 (g x)) : WpA ls m R k0 (written g) :=
  WpA.ac (WpA.mrk fun f => WpA.ac (WpA.ac (WpA.num fun n hn => WpA.xp ((WpA.bd (Q := Vd ls PT) (fun k => ⟨.inr (.inl rfl), AzJ r67_10 (t66_10 hn)⟩) h).mono (by omega))) ((WpA.bd (Q := Vd ls PT) (fun k => ⟨.inl rfl, AzJ r67_9 (t66_9 (.inl rfl))⟩) h).mono (by omega)))
    (WpA.ac ((WpA.bd (Q := Vd ls PT) (fun k => ⟨.inl rfl, AzJ r67_9 (t66_9 (.inr (.inl rfl)))⟩) h).mono (by omega)) (WpA.rdK0 (fun x hx => (WpA.bd (Q := Vd ls PT) (fun k => ⟨.inl rfl, AzJ r67_9 (t66_9 (.inr (.inr hx)))⟩) h).mono (by omega)) WpA.rep))) (WpA.nop h)
theorem WpA.field {g : AT → Pg} (h : ∀ x, Vd ls (PE .fd) x → WpA ls m R k0 (g x)) : WpA ls m R k0 (AwF g) := WpA.mrk fun f => WpA.nm fun x hx => WpA.xp (WpA.rdW2 (fun f2 t ht => WpA.bd (Q := fun y => y.kd = 9 ∧ y.tx = t ∧ Gd ls y) (fun k => ⟨rfl, rfl, AzJ r67_9 (t66_9 (by
    have : t = wInt ∨ t = wBool := by simpa using ht
    rcases this with h | h
    · exact .inl h
    · exact .inr (.inl h)))⟩) fun y hy => (WpA.bd (Q := Vd ls (PE .fd)) (fun k => ⟨rfl, gd_field hx hy.1 (by rw [hy.2.1]; simpa using ht) hy.2.2⟩) h).mono (by omega)) WpA.rep)
theorem WpA.param {g : AT → Pg} (h : ∀ x, Vd ls (PE .pa) x → WpA ls m R k0 (g x)) : WpA ls m R k0 (Aw3 g) := WpA.mrk fun f => WpA.ac (WpA.nm fun x hx => WpA.written fun t ht => (WpA.bd (Q := Vd ls (PE .pa)) (fun k => ⟨.inr rfl, Av6 r67_8 (t66_8 hx) k68_8 ht⟩) h).mono (by omega))
  (WpA.nm fun x hx => WpA.written fun t ht => (WpA.bd (Q := Vd ls (PE .pa)) (fun k => ⟨.inl rfl, Av6 r67_7 (t66_7 hx) k68_7 ht⟩) h).mono (by omega))
theorem WpA.elem {e : El} {g : AT → Pg} (h : ∀ x, Vd ls (PE e) x → WpA ls m R k0 (g x)) : WpA ls m R k0 (elemP e g) := by
  cases e with
  | fd => exact WpA.field h
  | pa => exact WpA.param h
  | ex => exact WpA.ex h
theorem WpA.list {e : El} {g : List AT → Pg} (h : ∀ l, (∀ x ∈ l, Vd ls (PE e) x) → 1 ≤ l.length → l.length ≤ m + 1 → WpA ls m R k0 (g l)) : WpA ls m R k0 (listP e g) := WpA.elem fun x hx k a hk ha v k' a' h1 h2 hv ha' => by
  obtain ⟨b1, b2, b3⟩ := hv fun y hy => by rw [List.mem_singleton] at hy; subst hy; exact hx
  simp only [List.length_singleton] at b2 b3;exact h v.2 b1 b3 (by omega) k' a' (by omega) ha'
theorem WpA.record (h4 : m ≤ 4000) {g : AT → Pg} (h : ∀ x, Vd ls PD x → WpA ls m R (k0 + 1) (g x)) : WpA ls m R k0 (AkC g) := WpA.mrk fun f => WpA.rea (WpA.nm fun x hx => WpA.xp (WpA.list fun l hl l1 l2 => WpA.xp ((WpA.bd (Q := Vd ls PD) (fun k => ⟨.inl rfl, AvS r67_3 (t66_3 hx) (fun i => k68_3) hl l1 (by omega)⟩) h).mono (by omega))))
theorem WpA.params (h4 : m ≤ 4000) {g : AT → Pg} (h : ∀ x, Vd ls (fun j => j = 6) x → WpA ls m R k0 (g x)) : WpA ls m R k0 (AvO g) := WpA.mrk fun f => WpA.xp (WpA.ifW (WpA.xp ((WpA.bd (Q := Vd ls fun j => j = 6) (fun k => ⟨rfl, AzJ r67_6 t66_6⟩) h).mono (by omega)))
  (WpA.list fun l hl l1 l2 => WpA.xp ((WpA.bd (Q := Vd ls fun j => j = 6) (fun k => ⟨rfl, AvS r67_6 t66_6 (fun i => k68_6) hl (Nat.zero_le _) (by omega)⟩) h).mono (by omega))))
theorem WpA.proc (h4 : m ≤ 4000) {g : AT → Pg} (h : ∀ x, Vd ls PD x → WpA ls m R (k0 + 1) (g x)) : WpA ls m R k0 (procP g) := WpA.mrk fun f => WpA.rea (WpA.nm fun x hx => WpA.params h4 fun a hpa => WpA.written fun t ht => WpA.blk fun b hb => (WpA.bd (Q := Vd ls PD) (fun k => ⟨.inr rfl, Av5 r67_5 (t66_5 hx) k68_5_0 k68_5_1 k68_5_2 hpa ht hb⟩) h).mono (by omega))
theorem WpA.args (h4 : m ≤ 4000) {g : List AT → Pg} (h : ∀ l, (∀ x ∈ l, Vd ls PX x) → l.length ≤ 4096 → WpA ls m R (k0 + 1) (g l)) : WpA ls m R k0 (argsP g) := WpA.rea (WpA.ifW (WpA.xp ((h [] (fun x hx => by cases hx) (by decide)).mono (by omega))) (WpA.list fun l hl l1 l2 => WpA.xp ((h l hl (by omega)).mono (by omega))))
theorem WpA.variable {g : AT → Pg} (h : ∀ x, Vd ls (fun j => j = 20) x → WpA ls m R (k0 + 1) (g x)) : WpA ls m R k0 (AxU g) := WpA.mrk fun f => WpA.nm fun x hx => WpA.bd (Q := Vd ls fun j => j = 20) (fun k => ⟨rfl, AzJ r67_20 (t66_20 hx)⟩) h
theorem WpA.place {g : AT → Pg} (h : ∀ x, Vd ls PL x → WpA ls m R (k0 + 1) (g x)) : WpA ls m R k0 (Ak0 g) := WpA.mrk fun f => WpA.variable fun v hv => WpA.ac (WpA.ex fun y hy => WpA.xp ((WpA.bd (Q := Vd ls PL) (fun k => ⟨.inr (.inl rfl), BxY r67_21 t66_21 k68_21_0 k68_21_1 hv hy⟩) h).mono (by omega)))
  (WpA.ac (WpA.nm fun x hx => (WpA.bd (Q := Vd ls PL) (fun k => ⟨.inr (.inr rfl), Av6 r67_22 (t66_22 hx) k68_22 hv⟩) h).mono (by omega)) (h v (hv.mono fun j hj => .inl hj)))
end
section
variable {ls : List Tk} {m : Nat}
theorem pz {kd : Nat} (h : 12 ≤ kd ∧ kd ≤ 19) : PZ (kd : Nat) := by show 12 ≤ ((kd : Nat) : Int) ∧ ((kd : Nat) : Int) ≤ 19; omega
theorem px {kd : Nat} (h : 20 ≤ kd ∧ kd ≤ 29) : PX (kd : Nat) := by show 20 ≤ ((kd : Nat) : Int) ∧ ((kd : Nat) : Int) ≤ 29; omega
theorem op_in (L : Nat) {o : List UInt8} (h : (opL L).contains o = true) : opW.contains o = true := by
  have key : ∀ L, (opL L).all opW.contains = true := by
    intro L;unfold opL
    split <;> decide
  exact List.all_eq_true.1 (key L) o (List.contains_iff_mem.1 h)
theorem wp_lv4 : WpA ls m (RX ls (.ex 3) 0) 0 lv4P := WpA.mrk fun f => WpA.ex fun x hx => WpA.rdW (fun o ho => WpA.ex fun y hy => WpA.nod fun k k' _ => ⟨px (kd := 29) (by decide), BxY r67_29 (t66_29 (op_in 4 ho)) k68_29 k68_29 hx hy⟩) (WpA.ret fun k _ => hx)
theorem wp_prim (h4 : m ≤ 4000) : WpA ls m (RX ls (.ex 7) 0) 0 primP := WpA.mrk fun f => WpA.rdK2 (fun x hx => WpA.nod fun k k' _ => ⟨px (kd := 24) (by decide), AzJ r67_24 (t66_24 (numD_dgt hx))⟩)
  (WpA.rdW (fun x hx => WpA.nod fun k k' _ => ⟨px (kd := 25) (by decide), AzJ r67_25 (t66_25 (by simpa using hx))⟩) fun k a hk ha b => by
    dsimp only;split
    · rename_i hc;exact fun b => WpA.rea (k0 := 0) (p := argsP fun l => Pg.nod 27 a.2 f l) (WpA.args h4 fun l hl l2 => WpA.nod fun k k' _ => ⟨px (kd := 27) (by decide), AvS r67_27 (t66_27 (ha.1 hc.1)) (fun i => k68_27) hl (Nat.zero_le _) l2⟩) k a hk ha
    · exact WpA.ite (WpA.place fun x hx => WpA.ret fun k _ => hx.mono fun j hj => by rcases hj with h | h | h <;> (show 20 ≤ j ∧ j ≤ 29; omega))
        (WpA.ac (WpA.list fun l hl l1 l2 => WpA.xp (WpA.nod fun k k' _ => ⟨px (kd := 26) (by decide), AvS r67_26 t66_26 (fun i => k68_26) hl l1 (by omega)⟩))
        (WpA.ac (WpA.xp (WpA.variable fun v hv => WpA.xp (WpA.nod fun k k' _ => ⟨px (kd := 23) (by decide), Av6 r67_23 t66_23 k68_23 hv⟩)))
        (WpA.ac (WpA.ex fun x hx => WpA.xp (WpA.ret fun k _ => hx)) WpA.rep))) k a hk ha)
theorem wp_all (h4 : m ≤ 4000) : ∀ (x : NT) (k0 : Nat), WpA ls m (RX ls x k0) k0 (prog x)
  | .ex L, k0 => by
    have up : ∀ {p}, WpA ls m (RX ls (.ex L) 0) 0 p → WpA ls m (RX ls (.ex L) k0) k0 p := fun h => WpA.mono h (Nat.zero_le _)
    by_cases h3 : L = 3
    · subst h3; exact up (WpA.mrk fun f => WpA.ac (WpA.ex fun x hx => WpA.nod fun k k' _ => ⟨px (kd := 28) (by decide), Av6 r67_28 (t66_28 (.inr rfl)) k68_28 hx⟩) wp_lv4)
    · by_cases h7 : L = 7
      · subst h7; exact up (WpA.mrk fun f => WpA.ac (WpA.ex fun x hx => WpA.nod fun k k' _ => ⟨px (kd := 28) (by decide), Av6 r67_28 (t66_28 (.inl rfl)) k68_28 hx⟩) (wp_prim h4))
      · rw [prog]
        · exact WpA.mrk fun f => WpA.ex fun x hx k a hk ha v k' a' h1 h2 hv ha' => hv hx
        · exact fun h => h3 h
        · exact fun h => h7 h
  | .lp L f x, k0 => fun k a hk ha => by
    by_cases hx : Vd ls PX x
    · have : WpA ls m (RX ls (.lp L f x) k0) 0 (prog (.lp L f x)) := WpA.rdW (fun o ho => WpA.ex fun y hy => WpA.bd (Q := Vd ls PX) (fun k => ⟨px (kd := 29) (by decide), BxY r67_29 (t66_29 (op_in L ho)) k68_29 k68_29 hx hy⟩) fun z hz k a hk ha v k' a' h1 h2 hv ha' _ => hv hz) (WpA.ret fun k _ h => h)
      exact this k a (Nat.zero_le _) ha
    · have : ∀ (p : Pg) k a, Wp ls m (RX ls (.lp L f x) k0) p k a := by
        intro p
        induction p with
        | ret v => exact fun k a h => absurd h hx
        | look f ih => exact fun k a b => ih _ _ _ _ _
        | read p ih => exact fun k a a' _ => ih _ _
        | report e t p ih => exact fun k a => trivial
        | call x f ih => exact fun k a v k' a' _ _ _ _ => ih _ _ _
      exact this _ k a
  | .tl e acc, k0 => WpA.ac (WpA.elem fun x hx k a hk ha v k' a' h1 h2 hv ha' hacc => by
      obtain ⟨b1, b2, b3⟩ := hv fun y hy => by
        rcases List.mem_append.1 hy with h | h
        · exact hacc y h
        · rw [List.mem_singleton] at h; subst h; exact hx
      simp only [List.length_append, List.length_singleton] at b2 b3;exact ⟨b1, by omega, by omega⟩) (WpA.ret fun k hk hacc => ⟨hacc, by show acc.length + k0 ≤ acc.length + k; omega, Nat.le_refl _⟩)
  | .bk, k0 => WpA.mrk fun f => WpA.ac (fun k a hk ha v k' a' h1 h2 hv ha' => WpA.xp (k0 := k') (WpA.nod fun k1 k2 _ => ⟨rfl, by
      obtain ⟨b1, b2⟩ := hv fun y hy => by cases hy
      simp only [List.length_nil] at b2;exact AvS r67_11 t66_11 (fun i => k68_11) b1 (Nat.zero_le _) (by omega)⟩) k' a' (Nat.le_refl _) ha') WpA.rep
  | .sts acc, k0 => WpA.ifW (WpA.ret fun k hk hacc => ⟨hacc, by show acc.length + k0 ≤ acc.length + k; omega⟩) (WpA.ifK (WpA.ret fun k hk hacc => ⟨hacc, by show acc.length + k0 ≤ acc.length + k; omega⟩) fun k a hk ha u k1 a1 h1 h2 hu ha1 v k' a' h3 h5 hv ha' hacc => by
      obtain ⟨b1, b2⟩ := hv fun y hy => by
        rcases List.mem_append.1 hy with h | h
        · exact hacc y h
        · rw [List.mem_singleton] at h; subst h; exact hu.1
      simp only [List.length_append, List.length_singleton] at b2;have := hu.2;exact ⟨b1, by omega⟩)
  | .st, k0 => WpA.ifW (WpA.mrk fun f => WpA.rea (WpA.nm fun x hx => WpA.written fun t ht => WpA.xp (WpA.ex fun v hv => WpA.xp (WpA.nod fun k k' hk => ⟨⟨pz (kd := 12) (by decide), BxY r67_12 (t66_12 hx) k68_12_0 k68_12_1 ht hv⟩, by omega⟩))))
    (WpA.ifW (fun k a hk ha v k' a' h1 h2 hv ha' => ⟨hv.1.mono fun j hj => by subst hj; decide, by have := hv.2; omega⟩)
    (WpA.ifW (WpA.mrk fun f => WpA.rea (WpA.ex fun c hc => WpA.blk fun b hb => WpA.nod fun k k' hk => ⟨⟨pz (kd := 15) (by decide), BxY r67_15 t66_15 k68_15_0 k68_15_1 hc hb⟩, by omega⟩))
    (WpA.ifW (WpA.mrk fun f => WpA.rea (WpA.nm fun x hx => WpA.xp (WpA.ex fun u hu => WpA.xp (WpA.ex fun c hc => WpA.blk fun b hb => WpA.nod fun k k' hk => ⟨⟨pz (kd := 16) (by decide), Av5 r67_16 (t66_16 hx) k68_16_0 k68_16_1 k68_16_2 hu hc hb⟩, by omega⟩))))
    (WpA.ifW (WpA.mrk fun f => WpA.rea fun k a hk ha b => WpA.ite (WpA.ex fun x hx => WpA.xp (WpA.nod fun k k' hk => ⟨⟨pz (kd := 17) (by decide), Av6 r67_17 t66_17 k68_17 (hx.mono fun j hj => .inl hj)⟩, by omega⟩)) (WpA.nop0 fun x hx => WpA.xp (WpA.nod fun k k' hk => ⟨⟨pz (kd := 17) (by decide), Av6 r67_17 t66_17 k68_17 (hx.mono fun j hj => .inr hj)⟩, by omega⟩)) k a hk ha)
    (WpA.ifW (WpA.mrk fun f => WpA.rea (WpA.ex fun x hx => WpA.xp (WpA.nod fun k k' hk => ⟨⟨pz (kd := 18) (by decide), Av6 r67_18 t66_18 k68_18 hx⟩, by omega⟩)))
    (fun k a hk ha b => by
      dsimp only;split
      · rename_i hc;intro b1 b2;dsimp only;split
        · exact fun b3 => WpA.rea (k0 := k0) (WpA.args h4 fun l hl l2 => WpA.xp (WpA.nod fun k k' hk => ⟨⟨pz (kd := 19) (by decide), AvS r67_19 (t66_19 (ha.1 hc)) (fun i => k68_19) hl (Nat.zero_le _) l2⟩, by omega⟩)) k a hk ha
        · exact WpA.place (fun x hx => WpA.xp (WpA.ex fun y hy => WpA.xp (WpA.nod fun k k' hk => ⟨⟨pz (kd := 13) (by decide), BxY r67_13 t66_13 k68_13_0 k68_13_1 hx hy⟩, by omega⟩))) k a hk ha
      · exact trivial))))))
  | .br, k0 => WpA.mrk fun f => WpA.rea (WpA.ex fun c hc => WpA.blk fun b hb => WpA.ac (WpA.ifW (fun k a hk ha v k' a' h1 h2 hv ha' => WpA.nod (k0 := k') (fun k1 k2 hk2 => ⟨⟨rfl, Av5 r67_14 t66_14 BjS BjR BjQ hc hb (hv.1.mono fun j hj => .inr (.inl hj))⟩, by omega⟩) k' a' (Nat.le_refl _) ha')
      (WpA.blk fun o ho => WpA.nod fun k k' hk => ⟨⟨rfl, Av5 r67_14 t66_14 BjS BjR BjQ hc hb (ho.mono fun j hj => .inl hj)⟩, by omega⟩))
    (WpA.nop0 fun o ho => WpA.nod fun k k' hk => ⟨⟨rfl, Av5 r67_14 t66_14 BjS BjR BjQ hc hb (ho.mono fun j hj => .inr (.inr hj))⟩, by omega⟩))
  | .sk f, k0 => fun k a hk ha => by
    have : ∀ (p : Pg) k a, Wp ls m (RX ls (.sk f) k0) p k a := by
      intro p
      induction p with
      | ret v => exact fun k a => trivial
      | look f ih => exact fun k a b => ih _ _ _ _ _
      | read p ih => exact fun k a a' _ => ih _ _
      | report e t p ih => exact fun k a => trivial
      | call x f ih => exact fun k a v k' a' _ _ _ _ => ih _ _ _
    exact this _ k a
  | .sp, k0 => fun k a hk ha => by
    have : ∀ (p : Pg) k a, Wp ls m (RX ls .sp k0) p k a := by
      intro p
      induction p with
      | ret v => exact fun k a => trivial
      | look f ih => exact fun k a b => ih _ _ _ _ _
      | read p ih => exact fun k a a' _ => ih _ _
      | report e t p ih => exact fun k a => trivial
      | call x f ih => exact fun k a v k' a' _ _ _ _ => ih _ _ _
    exact this _ k a
  | .pg acc, k0 => by
    have go : ∀ x, Vd ls PD x → WpA ls m (RX ls (.pg acc) k0) (k0 + 1) (Pg.lst (.pg (acc ++ [x]))) := fun x hx k a hk ha v k' a' h1 h2 hv ha' hacc => by
      obtain ⟨b1, b2⟩ := hv fun y hy => by
        rcases List.mem_append.1 hy with h | h
        · exact hacc y h
        · rw [List.mem_singleton] at h; subst h; exact hx
      simp only [List.length_append, List.length_singleton] at b2;exact ⟨b1, by omega⟩
    exact WpA.ifK (WpA.ret fun k hk hacc => ⟨hacc, by show acc.length + k0 ≤ acc.length + k; omega⟩) (WpA.ifW (WpA.record h4 go) (WpA.ifW (WpA.proc h4 go) WpA.rep))
end
end Go.Abs.Z

namespace Go.Abs.Z
open Go.Proofs Go.RowKit
set_option linter.unusedVariables false
theorem scan_wo (s : List UInt8) : ∀ (n f : Nat), ∀ t ∈ scanF n (s.drop f) f, t.k = 0 → (wd s t).all woB = true
  | 0, f, t, h, _ => by cases h
  | n + 1, f, t, h, h0 => by
    rw [scanF] at h;by_cases he : (s.drop f).drop (skN false (s.drop f)) = []
    · rw [if_pos he, List.mem_singleton] at h;subst h; cases h0
    · rw [if_neg he] at h;simp only [List.drop_drop] at h;rcases List.mem_cons.1 h with rfl | h
      · rw [wd_eq (r := s.drop (f + skN false (s.drop f))) rfl];have h0 : (tokN (s.drop (f + skN false (s.drop f)))).1 = 0 := h0;unfold tokN at h0 ⊢;by_cases hl : leB ((s.drop (f + skN false (s.drop f))).headD 0) = true
        · simp only [hl, if_true]; exact runL_take _ _
        · rw [if_neg hl] at h0
          split at h0
          · cases h0
          · split at h0 <;> cases h0
      · exact scan_wo s n _ t h h0
theorem lexP_nil {s : List UInt8} : ∀ {l : List Tk}, lexP s l = [] → ∀ t ∈ l, lexC s t = 0
  | [], _, t, h => by cases h
  | u :: l, h, t, ht => by
    rw [lexP] at h
    split at h
    · rename_i hu;rcases List.mem_cons.1 ht with rfl | ht
      · exact hu
      · exact lexP_nil h t ht
    · cases h
theorem okW_of {s : List UInt8} (hs : s.length < 100000) (hl : lexs s = []) (k : Nat) : okW (wAt s (toksT s) k) := by
  cases ht : (toksT s)[k]? with
  | none =>
    have : wAt s (toksT s) k = (5, []) := by unfold wAt; rw [ht]
    rw [this]; exact ⟨fun h => absurd h (by decide), fun h => absurd h (by decide)⟩
  | some t =>
    rw [AvX ht];have hm : t ∈ scanT s := (List.mem_filter.1 (List.mem_of_getElem? ht)).1;have hc := lexP_nil hl t hm;have hw := ((AkI s (s.length + 1) 0 (by omega) (by omega)).wf t hm).1
    refine ⟨fun h0 => ?_, fun h2 => ?_⟩
    · have h0 : t.k = 0 := h0;obtain ⟨a1, a2⟩ := hw.k0 h0;have a3 := scan_wo s (s.length + 1) 0 t hm h0
      have a4 : (wd s t).length ≤ 16 := by
        unfold lexC at hc;rw [if_neg (by omega), if_neg (by omega)] at hc
        split at hc
        · cases hc
        · rename_i h; omega
      have a5 : wd s t ≠ [] := fun e => by rw [e] at a1; exact absurd a1 (by decide)
      show nameB (wd s t) = true;simp only [nameB, a1, a2, a3, a4, a5, ne_eq, not_false_eq_true, decide_true, Bool.not_false, Bool.and_self]
    · have h2 : t.k = 2 := h2;unfold lexC at hc;rw [if_neg (by omega), if_pos h2] at hc
      show numB (wd s t) = true;cases hn : numB (wd s t) with
      | true => rfl
      | false => rw [hn] at hc; cases hc
theorem wpN {ls : List Tk} {m : Nat} (h4 : m ≤ 4000) {w : Nat → Wd} (hw : ∀ k, okW (w k)) : ∀ n x k v k1, runN w n x k [] = some (v, k1, []) → k1 ≤ m → RX ls x k v k1
  | 0, _, _, _, _, h, _ => by cases h
  | n + 1, x, k, v, k1, h, h1 => wpP (m := m) (runN_dm n) hw (wpN h4 hw n) (prog x) k v k1 h h1 (wp_all h4 x k k (w k) (Nat.le_refl _) (hw k))
mutual
def Tr.all : Tr → List Tr
  | .mk kd tx st en b ks => .mk kd tx st en b ks :: alls ks
def alls : List Tr → List Tr
  | [] => []
  | x :: xs => x.all ++ alls xs
end
theorem Bk4 : ∀ xs ys : List Tr, alls (xs ++ ys) = alls xs ++ alls ys
  | [], _ => rfl
  | x :: xs, ys => by rw [List.cons_append, alls, Bk4 xs ys, alls, List.append_assoc]
theorem BzB (T : Tr) : T.all = T :: alls T.kids := by cases T; rfl
theorem take_alls {ks : List Tr} {j : Nat} (h : j < ks.length) : alls (ks.take (j + 1)) = alls (ks.take j) ++ ks[j].all := by
  rw [List.take_succ_eq_append_getElem h, Bk4];simp [alls]
theorem BxF {T : Tr} (wT : T.wf) (hs : T.all.length ≤ 1000000000) (hk : ∀ (i : Nat) (U : Tr), T.kids[i]? = some U → E 13 [U.pv] [] (.slice false 5 (Tr.pvs U.all)) []) : ∀ (n j : Nat), j + n = T.kids.length →
    LE m13_0 l13_0 [(1, some (.vptr T.pv)), (3, some (.slice true 5 (Tr.pvs (T :: alls (T.kids.take j))))), (4, some (N j))] [] (.exit 0) [(1, some (.vptr T.pv)), (3, some (.slice true 5 (Tr.pvs T.all)))] []
  | 0, j, h => by
    have e : T.all = T :: alls (T.kids.take j) := by rw [BzB, List.take_of_length_le (by omega)]
    rw [e];exact r13_l0_out1 wT (by omega)
  | n + 1, j, h => by
    have hj : j < T.kids.length := by omega
    have g : T.kids[j]? = some T.kids[j] := List.getElem?_eq_getElem hj
    have hl : (T :: alls (T.kids.take j)).length + (T.kids[j].all).length ≤ AqH := by
      have e0 : 1000000000 ≤ AqH := by decide
      have e1 := BzB T;have e2 : alls T.kids = alls (T.kids.take (j + 1)) ++ alls (T.kids.drop (j + 1)) := by rw [← Bk4, List.take_append_drop]
      have e3 := take_alls hj;have := congrArg List.length e1;have := congrArg List.length e2;have := congrArg List.length e3;simp only [List.length_cons, List.length_append] at *;omega
    have hne : T.kids[j].all ≠ [] := by rw [BzB]; simp
    have hjs : j < 1000000000 := by
      have : T.kids.length ≤ (alls T.kids).length := by
        have key : ∀ ks : List Tr, ks.length ≤ (alls ks).length := by
          intro ks
          induction ks with
          | nil => exact Nat.le_refl _
          | cons x xs ih => rw [alls, List.length_append, BzB]; simp only [List.length_cons]; omega
        exact key _
      have e1 := congrArg List.length (BzB T);simp only [List.length_cons] at e1;omega
    have ih := BxF wT hs hk n (j + 1) (by omega)
    rw [take_alls hj] at ih;exact r13_l0_next1 wT (by omega) g (hk j _ g) hne hl (by omega) ih
mutual
theorem e13 : ∀ T : Tr, T.wf → T.all.length ≤ 1000000000 → E 13 [T.pv] [] (.slice false 5 (Tr.pvs T.all)) []
  | .mk kd tx st en b ks, hw, hs => r13 (BxF (T := .mk kd tx st en b ks) hw hs (fun i U hU => e13s ks hw.2 (by rw [BzB] at hs; simp only [List.length_cons, Tr.kids] at hs; omega) U (List.mem_of_getElem? hU)) ks.length 0 (by simp [Tr.kids]))
theorem e13s : ∀ ks : List Tr, Tr.wfs ks → (alls ks).length ≤ 1000000000 → ∀ U ∈ ks, E 13 [U.pv] [] (.slice false 5 (Tr.pvs U.all)) []
  | [], _, _, U, h => by cases h
  | x :: xs, hw, hs, U, h => by
    rw [alls, List.length_append] at hs;rcases List.mem_cons.1 h with h | h
    · rw [h]; exact e13 x hw.1 (by omega)
    · exact e13s xs hw.2 (by omega) U h
end
section
variable {ls : List Tk}
mutual
theorem size_all : ∀ x : AT, (trP ls x).all.length = x.size
  | .mk kd tx f k b ks => by
    show (_ :: alls (trPs ls ks)).length = 1 + sizes ks;rw [List.length_cons, Bq3 ks]; omega
theorem Bq3 : ∀ xs : List AT, (alls (trPs ls xs)).length = sizes xs
  | [] => rfl
  | x :: xs => by
    show (((trP ls x).all) ++ alls (trPs ls xs)).length = x.size + sizes xs;rw [List.length_append, size_all x, Bq3 xs]
end
mutual
theorem clean_all : ∀ x : AT, x.clean → ∀ U ∈ (trP ls x).all, U.kind ≠ 1
  | .mk kd tx f k b ks, h, U, hU => by
    have hU : U ∈ trP ls (.mk kd tx f k b ks) :: alls (trPs ls ks) := hU;rcases List.mem_cons.1 hU with e | hU
    · rw [e];have := h.1;show ((kd : Nat) : Int) ≠ 1;omega
    · exact AvU ks h.2 U hU
theorem AvU : ∀ xs : List AT, cleans xs → ∀ U ∈ alls (trPs ls xs), U.kind ≠ 1
  | [], _, U, h => by cases h
  | x :: xs, h, U, hU => by
    have hU : U ∈ (trP ls x).all ++ alls (trPs ls xs) := hU;rcases List.mem_append.1 hU with hU | hU
    · exact clean_all x h.1 U hU
    · exact AvU xs h.2 U hU
end
end
theorem law_loopN {s : List UInt8} {ts : List Tr} (hs : ts.length < 1000000000) (hk : ∀ U ∈ ts, U.kind ≠ 1) : ∀ (n j : Nat), j + n = ts.length →
    LR m4_0 l4_0 [(4, some .nils), (31, some (.slice false 5 (Tr.pvs ts))), (32, some (N ts.length)), (33, some (N j))] [] (.exit 0) [(4, some .nils), (31, some (.slice false 5 (Tr.pvs ts)))] []
  | 0, j, h => r4n_l0_out1 (by omega)
  | n + 1, j, h => r4n_l0_next1 (s := s) (by omega) (List.getElem?_eq_getElem (by omega)) (hk _ (List.getElem_mem (by omega))) (by omega) (law_loopN (s := s) hs hk n (j + 1) (by omega))
theorem BqG {s : List UInt8} {ts : List Tr} {R : List Dg} (hR : R ≠ []) (hs : ts.length < 1000000000) : ∀ (n j : Nat), j + n = ts.length →
    LR m4_0 l4_0 [(4, some (.slice false 5 (R.map Dg.pv))), (31, some (.slice false 5 (Tr.pvs ts))), (32, some (N ts.length)), (33, some (N j))] [] (.exit 0) [(4, some (.slice false 5 (R.map Dg.pv))), (31, some (.slice false 5 (Tr.pvs ts)))] []
  | 0, j, h => r4_l0_out1 (by omega)
  | n + 1, j, h => by
    have hp := List.length_pos_iff.2 hR;have g : ts[j]? = some ts[j] := List.getElem?_eq_getElem (by omega)
    by_cases h1 : ts[j].kind = 1
    · exact r4_l0_next2 (s := s) (by omega) g h1 (by omega) (by omega) (BqG (s := s) hR hs n (j + 1) (by omega))
    · exact r4_l0_next1 (s := s) (by omega) g h1 (by omega) (BqG (s := s) hR hs n (j + 1) (by omega))
theorem shapes_true (s : List UInt8) : Runs a4 [.str s] [] (.bool true) [] := by
  by_cases hs : s.length ≤ 500
  · have H := AvI s (by omega)
    obtain ⟨v, k, D, h⟩ := runs s (by omega) (.pg []) trivial (by simp)
    obtain ⟨o2, o3, o4⟩ := runs_ok s (by omega) h
    obtain ⟨b1, b2⟩ := o4 (by simp)
    obtain ⟨R, S1, E1⟩ := e8 (s := s) (by omega) (n := 100000) (by decide) h
    have hm : (toksT s).length - 1 ≤ 500 := by have := (small_tok (s := s) (by omega)).1; omega
    have hw : (prT s (toksT s) v.2).wf := ⟨fun h => Av1 _ h, trPs_wf _⟩
    have hz := szN _ _ _ _ _ _ _ h;have hz : sizes v.2 ≤ 0 + 16 * (k - 0) := hz
    have hal : (prT s (toksT s) v.2).all.length = 1 + sizes v.2 := by
      show (_ :: alls (trPs (toksT s) v.2)).length = _;rw [List.length_cons, Bq3]; omega
    have hN := e13 _ hw (by rw [hal]; omega)
    by_cases hR : R = []
    · subst hR;have hX : lexs s ++ dgs (toksT s) (finD (wAt s (toksT s)) k D) = [] := List.length_eq_zero_iff.1 S1.len.symm;obtain ⟨x1, x2⟩ := List.append_eq_nil_iff.1 hX;have x3 : finD (wAt s (toksT s)) k D = [] := List.map_eq_nil_iff.1 x2
      have x4 : D = [] := by
        unfold finD at x3
        split at x3
        · exact x3
        · simp at x3
      subst x4;have hv : RX (toksT s) (.pg []) 0 v k := wpN (m := (toksT s).length - 1) (by omega) (okW_of (by omega) x1) _ _ _ _ _ h o2
      obtain ⟨c1, c2⟩ := hv fun x hx => by cases hx
      simp only [List.length_nil] at c2
      have hsh : E 34 [(prT s (toksT s) v.2).pv] [] (.bool true) [] := by
        refine sh_of hw 0 4096 (show (0 : Int) ≤ 2 ∧ (2 : Int) ≠ 1 ∧ (2 : Int) ≤ 29 by decide) (t66_2 _ rfl rfl) r67_2 (Nat.zero_le _) ?_ ?_ fun i U hU => ?_
        · show (trPs _ v.2).length ≤ _; rw [AzP]; omega
        · show (trPs _ v.2).length < _; rw [AzP]; omega
        · have hU : (trPs (toksT s) v.2)[i]? = some U := hU;rw [AkG, List.getElem?_map] at hU
          cases hx : v.2[i]? with
          | none => rw [hx] at hU; cases hU
          | some x =>
            rw [hx] at hU;cases hU;obtain ⟨d1, d2⟩ := c1 x (List.mem_of_getElem? hx);exact ⟨k68_2 _ (by rw [tr_kind]; exact d1), d2.1⟩
      have hcl : ∀ U ∈ (prT s (toksT s) v.2).all, U.kind ≠ 1 := fun U hU => by
        have hU : U ∈ prT s (toksT s) v.2 :: alls (trPs (toksT s) v.2) := hU;rcases List.mem_cons.1 hU with e | hU
        · rw [e]; show (2 : Int) ≠ 1; decide
        · exact AvU v.2 (BqP _ fun x hx => (c1 x hx).2.2) U hU
      exact r4n_2 (by omega) (evA E1) rfl (evA (r12 rfl hsh)) (evA hN) (law_loopN (s := s) (by rw [hal]; omega) hcl _ 0 (Nat.zero_add _)) evA7
    · have e : accD 5 (R.map Dg.pv) = .slice false 5 (R.map Dg.pv) := by cases R <;> first | exact absurd rfl hR | rfl
      rw [e] at E1;have hp := List.length_pos_iff.2 hR;exact r4_4 (by omega) (evA E1) rfl (by omega) (evA hN) (BqG (s := s) hR (by rw [hal]; omega) _ 0 (Nat.zero_add _)) evA7
  · exact r4_1 (by omega) evA7
theorem str_own1 (s : List UInt8) : ∀ p ∈ [PV.str s], p.Aq1 = p := fun p hp => by rw [List.mem_singleton] at hp; subst hp; rfl
theorem shapes_ok (s : List UInt8) : AwK Tryz.prog 4 [.str s] [] (.bool true) [] := law_ok ok4 (str_own1 s) (shapes_true s)
end Go.Abs.Z
