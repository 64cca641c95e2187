/- A part of the proof: D27 D28 D30 D32. -/
import Derived.Test.YtfahhgdeociahaaDoorDa
import Derived.Test.YtfahhgdeociahaaDoorDf
import Derived.Test.YtfahhgdeociahaaDoorDk

set_option linter.unusedVariables false
set_option linter.unusedSimpArgs false
namespace Go.Abs.Z
set_option linter.unusedVariables false
open Pg
theorem rp_ne (D : List AD) (c k : Nat) (t : List UInt8) : rp D c k t ≠ [] := by
  unfold rp;split
  · rename_i h;intro e; subst e; simp at h
  · simp
def DM (c : NT → Nat → List AD → Ans3) : Prop := ∀ x k D v k1 D1, c x k D = some (v, k1, D1) → k ≤ k1 ∧ (D ≠ [] → D1 ≠ [])
section
variable {w w' : Nat → Wd} {m : Nat} {c c' : NT → Nat → List AD → Ans3}
theorem AzQ (hc : DM c) : ∀ (p : Pg) k D v k1 D1, runP w c p k D = some (v, k1, D1) → k ≤ k1 ∧ (D ≠ [] → D1 ≠ []) := by
  intro p
  induction p with
  | ret v => intro k D v k1 D1 h; cases h; exact ⟨Nat.le_refl _, id⟩
  | look f ih => intro k D v k1 D1 h; exact ih _ _ _ k D v k1 D1 h
  | read p ih =>
    intro k D v k1 D1 h;simp only [runP] at h
    split at h
    · cases h
    · obtain ⟨h1, h2⟩ := ih _ _ _ _ _ h;exact ⟨by omega, h2⟩
  | report e t p ih =>
    intro k D v k1 D1 h;obtain ⟨h1, h2⟩ := ih _ _ _ _ _ h;exact ⟨h1, fun _ => h2 (rp_ne _ _ _ _)⟩
  | call x f ih =>
    intro k D v k1 D1 h;simp only [runP] at h;obtain ⟨⟨u, k2, D2⟩, h1, h2⟩ := Option.bind_eq_some_iff.1 h;obtain ⟨a1, a2⟩ := hc _ _ _ _ _ _ h1;obtain ⟨b1, b2⟩ := ih _ _ _ _ _ _ h2;have b1 : k2 ≤ k1 := b1;exact ⟨by omega, fun hD => b2 (a2 hD)⟩
theorem Ak6 : ∀ n, DM (runN w n)
  | 0 => fun x k D v k1 D1 h => by cases h
  | n + 1 => fun x k D v k1 D1 h => AzQ (Ak6 n) (prog x) k D v k1 D1 h
theorem DM.nil (hc : DM c) {x : NT} {k k1 : Nat} {D : List AD} {v : Rs} (h : c x k D = some (v, k1, [])) : D = [] := by
  rcases D with _ | ⟨d, D⟩
  · rfl
  · exact absurd rfl ((hc _ _ _ _ _ _ h).2 (by simp))
theorem BqE (hc : DM c) {p : Pg} {k k1 : Nat} {D : List AD} {v : Rs} (h : runP w c p k D = some (v, k1, [])) : D = [] := by
  rcases D with _ | ⟨d, D⟩
  · rfl
  · exact absurd rfl ((AzQ hc _ _ _ _ _ _ h).2 (by simp))
def Rd1 (a : Wd) (p : Pg) : Prop := ∀ (w : Nat → Wd) (c : NT → Nat → List AD → Ans3) k D v k1 D1, DM c → w k = a → runP w c p k D = some (v, k1, D1) → k < k1
def LkA : Pg → Wd → Prop
  | .ret _, _ => True
  | .look f, a => (∀ b k, LkA (f a b k) a) ∧ ∀ b b' k, f a b k = f a b' k ∨ Rd1 a (f a b k)
  | .read p, _ => ∀ a, LkA p a
  | .report _ _ p, a => LkA p a
  | .call _ f, _ => ∀ v a, LkA (f v) a
def Lk (p : Pg) : Prop := ∀ a, LkA p a
theorem agP (ha : ∀ k, k < m → w k = w' k) (hm : DM c) (hc : ∀ x k v k1, c x k [] = some (v, k1, []) → k1 < m → c' x k [] = some (v, k1, [])) :
    ∀ (p : Pg) k v k1, LkA p (w k) → runP w c p k [] = some (v, k1, []) → k1 < m → runP w' c' p k [] = some (v, k1, []) := by
  intro p
  induction p with
  | ret v => intro k v k1 _ h _; exact h
  | look f ih =>
    intro k v k1 hl h h1;have hk := (AzQ hm _ _ _ _ _ _ h).1;have e := ha k (by omega)
    show runP w' c' (f (w' k) (w' (k + 1)) k) k [] = _;have h' : runP w c (f (w k) (w (k + 1)) k) k [] = some (v, k1, []) := h;rw [← e];rcases hl.2 (w (k + 1)) (w' (k + 1)) k with e2 | hr
    · rw [e2] at h';exact ih _ _ _ _ _ _ (hl.1 _ _) h' h1
    · have := hr w c k [] v k1 [] hm rfl h';rw [← ha (k + 1) (by omega)]
      exact ih _ _ _ _ _ _ (hl.1 _ _) h' h1
  | read p ih =>
    intro k v k1 hl h h1;have hk := (AzQ hm _ _ _ _ _ _ h).1;have e := ha k (by omega)
    simp only [runP] at h ⊢;rw [← e]
    split at h
    · cases h
    · rename_i h5;rw [if_neg h5];exact ih _ _ _ (hl _) h h1
  | report e t p ih =>
    intro k v k1 _ h _;exact absurd (BqE hm (p := p) h) (rp_ne _ _ _ _)
  | call x f ih =>
    intro k v k1 hl h h1;simp only [runP] at h ⊢;obtain ⟨⟨u, k2, D2⟩, g1, g2⟩ := Option.bind_eq_some_iff.1 h;dsimp only at g2;have := BqE hm g2;subst this;have hk := (AzQ hm _ _ _ _ _ _ g2).1;rw [hc x k u k2 g1 (by omega)]
    exact ih _ _ _ _ (hl _ _) g2 h1
def Rs1 : Pg → Prop
  | .ret _ => False
  | .look f => ∀ a b k, Rs1 (f a b k)
  | .read _ => True
  | .report _ _ _ => True
  | .call x f => x = .bk ∨ ∀ v, Rs1 (f v)
def BkR (c : NT → Nat → List AD → Ans3) : Prop := ∀ k v k1, c .bk k [] = some (v, k1, []) → k < k1
theorem rs1 (hm : DM c) (hb : BkR c) : ∀ p : Pg, Rs1 p → ∀ k v k1, runP w c p k [] = some (v, k1, []) → k < k1 := by
  intro p
  induction p with
  | ret v => intro h; exact h.elim
  | look f ih => intro hl k v k1 h; exact ih _ _ _ (hl _ _ _) k v k1 h
  | read p ih =>
    intro hl k v k1 h;simp only [runP] at h
    split at h
    · cases h
    · have := (AzQ hm _ _ _ _ _ _ h).1; omega
  | report e t p ih => intro _ k v k1 h; exact absurd (BqE hm (p := p) h) (rp_ne _ _ _ _)
  | call x f ih =>
    intro hl k v k1 h;simp only [runP] at h;obtain ⟨⟨u, k2, D2⟩, g1, g2⟩ := Option.bind_eq_some_iff.1 h;dsimp only at g2;have := BqE hm g2;subst this;have h1 := (hm _ _ _ _ _ _ g1).1;have h2 := (AzQ hm _ _ _ _ _ _ g2).1;rcases hl with rfl | hl
    · have := hb _ _ _ g1; omega
    · have := ih _ (hl u) _ _ _ g2; omega
def TC (b : Bool) : Pg → Prop
  | .ret _ => b = true
  | .look f => (∀ a b b' k, f a b k = f a b' k) ∧ ((∀ a a' b k, f a b k = f a' b k) ∨ ∀ a b k, Rs1 (f a b k)) ∧ ∀ a c k, TC b (f a c k)
  | .read p => TC b p
  | .report _ _ _ => True
  | .call x f => (b = false ∧ (∃ a, x = .pg a) ∧ f = .ret) ∨ ((x = .bk ∨ ∀ v, Rs1 (f v)) ∧ ∀ v, TC b (f v))
theorem tcP (ha : ∀ k, k < m → w k = w' k) (hm : DM c) (hb : BkR c) (hc : ∀ x k v k1, c x k [] = some (v, k1, []) → k1 < m → c' x k [] = some (v, k1, []))
    (hbk : ∀ k v k1, c .bk k [] = some (v, k1, []) → k1 ≤ m → c' .bk k [] = some (v, k1, [])) {b : Bool} {v : Rs} {k1 : Nat} (h1 : k1 ≤ m) {R2 : Rs × Nat × List AD}
    (hr : b = true → R2 = (v, k1, [])) (hp : b = false → ∀ a k, c (.pg a) k [] = some (v, k1, []) → c' (.pg a) k [] = some R2) :
    ∀ p : Pg, TC b p → ∀ k, runP w c p k [] = some (v, k1, []) → runP w' c' p k [] = some R2 := by
  intro p
  induction p with
  | ret u => intro hl k h; rw [hr hl]; exact h
  | look f ih =>
    intro hl k h;have h' : runP w c (f (w k) (w (k + 1)) k) k [] = some (v, k1, []) := h;show runP w' c' (f (w' k) (w' (k + 1)) k) k [] = _;obtain ⟨t1, t2, t3⟩ := hl;rw [t1 _ (w (k + 1)) (w' (k + 1))] at h';rcases t2 with t2 | t2
    · rw [t2 _ (w k)]; exact ih _ _ _ (t3 _ _ _) k h'
    · have := rs1 hm hb _ (t2 _ _ _) _ _ _ h';rw [ha k (by omega)] at h'
      exact ih _ _ _ (t3 _ _ _) k h'
  | read p ih =>
    intro hl k h;simp only [runP] at h ⊢
    split at h
    · cases h
    · rename_i h5;have hk := (AzQ hm _ _ _ _ _ _ h).1;rw [← ha k (by omega), if_neg h5]
      exact ih hl _ h
  | report e t p ih => intro _ k h; exact absurd (BqE hm (p := p) h) (rp_ne _ _ _ _)
  | call x f ih =>
    intro hl k h;simp only [runP] at h ⊢;obtain ⟨⟨u, k2, D2⟩, g1, g2⟩ := Option.bind_eq_some_iff.1 h;dsimp only at g2;rcases hl with ⟨hb', ⟨a, rfl⟩, rfl⟩ | ⟨hl1, hl2⟩
    · cases g2;rw [hp hb' a k g1];rfl
    · have := BqE hm g2;subst this;have hk := (AzQ hm _ _ _ _ _ _ g2).1;rcases hl1 with rfl | hl1
      · rw [hbk k u k2 g1 (by omega)]
        exact ih _ (hl2 _) _ g2
      · have := rs1 hm hb _ (hl1 u) _ _ _ g2;rw [hc x k u k2 g1 (by omega)]
        exact ih _ (hl2 _) _ g2
end
section
variable {p q : Pg}
theorem Lk.ifW {ws : List (List UInt8)} (hp : Lk p) (hq : Lk q) : Lk (Pg.ifW ws p q) := fun a => ⟨fun b k => by dsimp only; split <;> first | exact hp a | exact hq a, fun _ _ _ => .inl rfl⟩
theorem Lk.ifK {j : Nat} (hp : Lk p) (hq : Lk q) : Lk (Pg.ifK j p q) := fun a => ⟨fun b k => by dsimp only; split <;> first | exact hp a | exact hq a, fun _ _ _ => .inl rfl⟩
theorem Lk.mrk {g : Nat → Pg} (h : ∀ k, Lk (g k)) : Lk (Pg.mrk g) := fun a => ⟨fun b k => h k a, fun _ _ _ => .inl rfl⟩
theorem Lk.rea (h : Lk p) : Lk (.read p) := fun _ => h
theorem Lk.rep {e : Nat} {t : List UInt8} (h : Lk p) : Lk (.report e t p) := h
theorem Lk.ret {v : Rs} : Lk (.ret v) := fun _ => trivial
theorem Lk.call {x : NT} {f : Rs → Pg} (h : ∀ v, Lk (f v)) : Lk (.call x f) := fun _ => h
theorem Lk.ac {ws : List (List UInt8)} (hp : Lk p) (hq : Lk q) : Lk (Pg.ifW ws (.read p) q) := Lk.ifW (Lk.rea hp) hq
theorem Lk.xp {x : List UInt8} (h : Lk p) : Lk (Pg.xp x p) := Lk.ac h (Lk.rep h)
theorem Lk.rd {g : List UInt8 → Pg} (h : ∀ x, Lk (g x)) : Lk (Pg.rd g) := fun a => ⟨fun b k => h a.2, fun _ _ _ => .inl rfl⟩
theorem Lk.nm {g : List UInt8 → Pg} (h : ∀ x, Lk (g x)) : Lk (Pg.nm g) := Lk.ifK (Lk.rd h) (Lk.rep (h []))
theorem Lk.num {g : List UInt8 → Pg} (h : ∀ x, Lk (g x)) : Lk (Pg.num g) := Lk.ifK (Lk.rd fun x => h _) (Lk.rep (h []))
theorem Lk.bd {kd : Nat} {tx : List UInt8} {f : Nat} {b : Bool} {ks : List AT} {g : AT → Pg} (h : ∀ x, Lk (g x)) : Lk (Pg.bd kd tx f b ks g) := fun a => ⟨fun b k => h _ a, fun _ _ _ => .inl rfl⟩
theorem Lk.nod {kd : Nat} {tx : List UInt8} {f : Nat} {ks : List AT} : Lk (Pg.nod kd tx f ks) := Lk.bd fun _ => Lk.ret
theorem Lk.cl {x : NT} {g : AT → Pg} (h : ∀ x, Lk (g x)) : Lk (Pg.cl x g) := Lk.call fun v => h _
theorem Lk.lst {x : NT} : Lk (Pg.lst x) := Lk.call fun v => Lk.ret
theorem Lk.nop {g : AT → Pg} (h : ∀ x, Lk (g x)) : Lk (Pg.nop g) := Lk.mrk fun _ => Lk.bd h
theorem Lk.miss {g : AT → Pg} (h : ∀ x, Lk (g x)) : Lk (Pg.miss g) := Lk.mrk fun _ => Lk.bd h
theorem Lk.written {g : AT → Pg} (h : ∀ x, Lk (g x)) : Lk (written g) :=
  Lk.ac (Lk.mrk fun f => Lk.ac (Lk.ac (Lk.num fun n => Lk.xp (Lk.bd h)) (Lk.bd h)) (Lk.ac (Lk.bd h) (Lk.ifK (Lk.rd fun x => Lk.bd h) (Lk.miss h)))) (Lk.nop h)
theorem Lk.field {g : AT → Pg} (h : ∀ x, Lk (g x)) : Lk (Aw3 g) := Lk.mrk fun f => Lk.nm fun x => Lk.xp (Lk.ifW (Lk.mrk fun f2 => Lk.rd fun t => Lk.bd fun y => Lk.bd h) (Lk.miss fun y => Lk.bd h))
theorem Lk.param {g : AT → Pg} (h : ∀ x, Lk (g x)) : Lk (AvU g) := Lk.mrk fun f => Lk.ac (Lk.nm fun x => Lk.written fun t => Lk.bd h) (Lk.nm fun x => Lk.written fun t => Lk.bd h)
theorem Lk.elem {e : El} {g : AT → Pg} (h : ∀ x, Lk (g x)) : Lk (elemP e g) := by
  cases e with
  | fd => exact Lk.field h
  | pa => exact Lk.param h
  | ex => exact Lk.cl h
theorem Lk.list {e : El} {g : List AT → Pg} (h : ∀ x, Lk (g x)) : Lk (listP e g) := Lk.elem fun x => Lk.call fun v => h _
theorem Lk.record {g : AT → Pg} (h : ∀ x, Lk (g x)) : Lk (AkA g) := Lk.mrk fun f => Lk.rea (Lk.nm fun x => Lk.xp (Lk.list fun l => Lk.xp (Lk.bd h)))
theorem Lk.params {g : AT → Pg} (h : ∀ x, Lk (g x)) : Lk (AvH g) := Lk.mrk fun f => Lk.xp (Lk.ifW (Lk.xp (Lk.bd h)) (Lk.list fun l => Lk.xp (Lk.bd h)))
theorem Lk.proc {g : AT → Pg} (h : ∀ x, Lk (g x)) : Lk (procP g) := Lk.mrk fun f => Lk.rea (Lk.nm fun x => Lk.params fun a => Lk.written fun t => Lk.cl fun b => Lk.bd h)
theorem Lk.args {g : List AT → Pg} (h : ∀ x, Lk (g x)) : Lk (argsP g) := Lk.rea (Lk.ifW (Lk.xp (h [])) (Lk.list fun l => Lk.xp (h l)))
theorem Lk.variable {g : AT → Pg} (h : ∀ x, Lk (g x)) : Lk (AxU g) := Lk.mrk fun f => Lk.nm fun x => Lk.bd h
theorem Lk.place {g : AT → Pg} (h : ∀ x, Lk (g x)) : Lk (AkN g) := Lk.mrk fun f => Lk.variable fun v => Lk.ac (Lk.cl fun y => Lk.xp (Lk.bd h)) (Lk.ac (Lk.nm fun x => Lk.bd h) (h v))
theorem Lk.lv4 : Lk lv4P := Lk.mrk fun f => Lk.cl fun x => Lk.ifW (Lk.rd fun o => Lk.cl fun y => Lk.nod) Lk.ret
theorem rd1_rd {a : Wd} {g : List UInt8 → Pg} : Rd1 a (Pg.rd g) := fun w c k D v k1 D1 hm _ h => by
  have h' : (if (w k).1 = 5 then none else runP w c (g (w k).2) (k + 1) D) = some (v, k1, D1) := h
  split at h'
  · cases h'
  · have := (AzQ hm _ _ _ _ _ _ h').1; omega
theorem AwY {a : Wd} (h0 : a.1 = 0) {g : AT → Pg} : Rd1 a (AkN g) := fun w c k D v k1 D1 hm ha h => by
  subst ha;have h' : runP w c (if (w k).1 = 0 then Pg.rd _ else _) k D = some (v, k1, D1) := h
  rw [if_pos h0] at h';exact rd1_rd w c k D v k1 D1 hm rfl h'
theorem Lk.ite {c : Prop} [Decidable c] (hp : Lk p) (hq : Lk q) : Lk (if c then p else q) := by split <;> assumption
theorem Lk.prim : Lk primP := Lk.mrk fun f => Lk.ifK (Lk.rd fun x => Lk.nod) (Lk.ifW (Lk.rd fun x => Lk.nod) fun a => ⟨fun b k => Lk.ite (Lk.rd fun x => Lk.args fun l => Lk.nod)
    (Lk.ite (Lk.place fun x => Lk.ret) (Lk.ac (Lk.list fun l => Lk.xp Lk.nod) (Lk.ac (Lk.xp (Lk.variable fun v => Lk.xp Lk.nod)) (Lk.ac (Lk.cl fun x => Lk.xp Lk.ret) (Lk.rep (Lk.miss fun x => Lk.ret)))))) a,
  fun b b' k => by
    by_cases h0 : a.1 = 0
    · refine .inr ?_
      dsimp only;split
      · exact rd1_rd
      · first | exact AwY h0 | (rw [if_pos h0]; exact AwY h0)
    · exact .inl (by simp only [h0, false_and, if_false])⟩)
theorem LkA.simple {a : Wd} (h0 : a.1 = 0) : LkA simpleP a := ⟨fun _ k => ⟨fun b k => Lk.ite (Lk.rd fun x => Lk.args fun l => Lk.xp Lk.nod) (Lk.place fun x => Lk.xp (Lk.cl fun y => Lk.xp Lk.nod)) a, fun b b' k => .inr (by
    dsimp only;split
    · exact rd1_rd
    · exact AwY h0)⟩, fun _ _ _ => .inl rfl⟩
theorem Lk.stm : Lk (prog .st) :=
  Lk.ifW (Lk.mrk fun f => Lk.rea (Lk.nm fun x => Lk.written fun t => Lk.xp (Lk.cl fun v => Lk.xp Lk.nod))) (Lk.ifW Lk.lst (Lk.ifW (Lk.mrk fun f => Lk.rea (Lk.cl fun c => Lk.cl fun b => Lk.nod))
    (Lk.ifW (Lk.mrk fun f => Lk.rea (Lk.nm fun x => Lk.xp (Lk.cl fun a => Lk.xp (Lk.cl fun c => Lk.cl fun b => Lk.nod))))
    (Lk.ifW (Lk.mrk fun f => Lk.rea fun a => ⟨fun b k => Lk.ite (Lk.cl fun x => Lk.xp Lk.nod) (Lk.nop fun x => Lk.xp Lk.nod) a, fun _ _ _ => .inl rfl⟩)
    (Lk.ifW (Lk.mrk fun f => Lk.rea (Lk.cl fun x => Lk.xp Lk.nod))
    (fun a => ⟨fun b k => by
      dsimp only;split
      · rename_i h0; exact LkA.simple h0
      · exact Lk.rep (Lk.mrk fun f => Lk.call fun v => Lk.nod) a, fun _ _ _ => .inl rfl⟩))))))
theorem Lk.all : ∀ x : NT, Lk (prog x)
  | .ex L => by
    by_cases h3 : L = 3
    · subst h3; exact Lk.mrk fun f => Lk.ac (Lk.cl fun x => Lk.nod) Lk.lv4
    · by_cases h7 : L = 7
      · subst h7; exact Lk.mrk fun f => Lk.ac (Lk.cl fun x => Lk.nod) Lk.prim
      · rw [prog]
        · exact Lk.mrk fun f => Lk.cl fun x => Lk.lst
        · exact fun h => h3 h
        · exact fun h => h7 h
  | .lp L f x => Lk.ifW (Lk.rd fun o => Lk.cl fun y => Lk.bd fun z => Lk.lst) Lk.ret
  | .tl e acc => Lk.ac (Lk.elem fun x => Lk.lst) Lk.ret
  | .bk => Lk.mrk fun f => Lk.ac (Lk.call fun r => Lk.xp Lk.nod) (Lk.rep (Lk.bd fun x => Lk.ret))
  | .sts acc => Lk.ifW Lk.ret (Lk.ifK Lk.ret (Lk.cl fun x => Lk.lst))
  | .st => Lk.stm
  | .br => Lk.mrk fun f => Lk.rea (Lk.cl fun c => Lk.cl fun b => Lk.ac (Lk.ifW (Lk.cl fun o => Lk.nod) (Lk.cl fun o => Lk.nod)) (Lk.nop fun o => Lk.nod))
  | .sk f => Lk.ifK Lk.ret (Lk.mrk fun k => Lk.ite (Lk.ifW Lk.ret (Lk.rd fun x => Lk.ite Lk.ret Lk.lst)) (Lk.ifW Lk.ret (Lk.rd fun x => Lk.ite Lk.ret Lk.lst)))
  | .sp => Lk.ifK Lk.ret (Lk.ifW Lk.ret (Lk.rea Lk.lst))
  | .pg acc => Lk.ifK Lk.ret (Lk.ifW (Lk.record fun x => Lk.lst) (Lk.ifW (Lk.proc fun x => Lk.lst) (Lk.rep (Lk.mrk fun f => Lk.rea (Lk.call fun _ => Lk.bd fun x => Lk.lst)))))
variable {b : Bool}
theorem Rs1.bd {kd : Nat} {tx : List UInt8} {f : Nat} {b : Bool} {ks : List AT} {g : AT → Pg} (h : ∀ x, Rs1 (g x)) : Rs1 (Pg.bd kd tx f b ks g) := fun _ _ _ => h _
theorem Rs1.mrk {g : Nat → Pg} (h : ∀ k, Rs1 (g k)) : Rs1 (Pg.mrk g) := fun _ _ k => h k
theorem Rs1.ifW {ws : List (List UInt8)} (hp : Rs1 p) (hq : Rs1 q) : Rs1 (Pg.ifW ws p q) := fun a _ _ => by dsimp only; split <;> assumption
theorem Rs1.ifK {j : Nat} (hp : Rs1 p) (hq : Rs1 q) : Rs1 (Pg.ifK j p q) := fun a _ _ => by dsimp only; split <;> assumption
theorem Rs1.rd {g : List UInt8 → Pg} : Rs1 (Pg.rd g) := fun _ _ _ => trivial
theorem Rs1.xp {x : List UInt8} : Rs1 (Pg.xp x p) := Rs1.ifW trivial trivial
theorem Rs1.nm {g : List UInt8 → Pg} : Rs1 (Pg.nm g) := Rs1.ifK Rs1.rd trivial
theorem Rs1.num {g : List UInt8 → Pg} : Rs1 (Pg.num g) := Rs1.ifK Rs1.rd trivial
theorem Rs1.bk {g : AT → Pg} : Rs1 (Pg.cl .bk g) := .inl rfl
theorem Rs1.call {x : NT} {f : Rs → Pg} (h : ∀ v, Rs1 (f v)) : Rs1 (.call x f) := .inr h
theorem Rs1.written {g : AT → Pg} (h : ∀ x, Rs1 (g x)) : Rs1 (written g) := Rs1.ifW trivial (Rs1.mrk fun _ => Rs1.bd h)
theorem Rs1.elem {e : El} {g : AT → Pg} (h : ∀ x, Rs1 (g x)) : Rs1 (elemP e g) := by
  cases e with
  | fd => exact Rs1.mrk fun _ => Rs1.nm
  | pa => exact Rs1.mrk fun _ => Rs1.ifW trivial Rs1.nm
  | ex => exact Rs1.call fun v => h _
theorem Rs1.list {e : El} {g : List AT → Pg} (h : ∀ x, Rs1 (g x)) : Rs1 (listP e g) := Rs1.elem fun x => Rs1.call fun v => h _
theorem TC.look1 {f : Wd → Wd → Nat → Pg} (h1 : ∀ a b b' k, f a b k = f a b' k) (h2 : ∀ a b k, Rs1 (f a b k)) (h3 : ∀ a c k, TC b (f a c k)) : TC b (.look f) := ⟨h1, .inr h2, h3⟩
theorem TC.ifW {ws : List (List UInt8)} (rp : Rs1 p) (rq : Rs1 q) (hp : TC b p) (hq : TC b q) : TC b (Pg.ifW ws p q) := TC.look1 (fun _ _ _ _ => rfl) (Rs1.ifW rp rq) fun a c k => by split <;> assumption
theorem TC.ifK {j : Nat} (rp : Rs1 p) (rq : Rs1 q) (hp : TC b p) (hq : TC b q) : TC b (Pg.ifK j p q) := TC.look1 (fun _ _ _ _ => rfl) (Rs1.ifK rp rq) fun a c k => by split <;> assumption
theorem TC.rea (h : TC b p) : TC b (.read p) := h
theorem TC.ac {ws : List (List UInt8)} (rq : Rs1 q) (hp : TC b p) (hq : TC b q) : TC b (Pg.ifW ws (.read p) q) := TC.ifW trivial rq (TC.rea hp) hq
theorem TC.mrk {g : Nat → Pg} (h : ∀ k, TC b (g k)) : TC b (Pg.mrk g) := ⟨fun _ _ _ _ => rfl, .inl fun _ _ _ _ => rfl, fun _ _ k => h k⟩
theorem TC.bd {kd : Nat} {tx : List UInt8} {f : Nat} {b' : Bool} {ks : List AT} {g : AT → Pg} (h : ∀ x, TC b (g x)) : TC b (Pg.bd kd tx f b' ks g) := ⟨fun _ _ _ _ => rfl, .inl fun _ _ _ _ => rfl, fun _ _ _ => h _⟩
theorem TC.rd {g : List UInt8 → Pg} (h : ∀ x, TC b (g x)) : TC b (Pg.rd g) := TC.look1 (fun _ _ _ _ => rfl) Rs1.rd fun a _ _ => h a.2
theorem TC.xp {x : List UInt8} (h : TC b p) : TC b (Pg.xp x p) := TC.ifW trivial trivial h trivial
theorem TC.nm {g : List UInt8 → Pg} (h : ∀ x, TC b (g x)) : TC b (Pg.nm g) := TC.ifK Rs1.rd trivial (TC.rd h) trivial
theorem TC.num {g : List UInt8 → Pg} (h : ∀ x, TC b (g x)) : TC b (Pg.num g) := TC.ifK Rs1.rd trivial (TC.rd fun x => h _) trivial
theorem TC.nod (kd : Nat) (tx : List UInt8) (f : Nat) (ks : List AT) : TC true (Pg.nod kd tx f ks) := TC.bd fun _ => rfl
theorem TC.bk {g : AT → Pg} (h : ∀ x, TC b (g x)) : TC b (Pg.cl .bk g) := .inr ⟨.inl rfl, fun v => h _⟩
theorem TC.call {x : NT} {f : Rs → Pg} (hr : ∀ v, Rs1 (f v)) (h : ∀ v, TC b (f v)) : TC b (.call x f) := .inr ⟨.inr hr, h⟩
theorem TC.pg {acc : List AT} : TC false (Pg.lst (.pg acc)) := .inl ⟨rfl, ⟨_, rfl⟩, rfl⟩
theorem TC.nop {g : AT → Pg} (h : ∀ x, TC b (g x)) : TC b (Pg.nop g) := TC.mrk fun _ => TC.bd h
theorem TC.miss {g : AT → Pg} (h : ∀ x, TC b (g x)) : TC b (Pg.miss g) := TC.mrk fun _ => TC.bd h
theorem TC.written {g : AT → Pg} (r : ∀ x, Rs1 (g x)) (h : ∀ x, TC b (g x)) : TC b (written g) :=
  TC.ac (Rs1.mrk fun _ => Rs1.bd r) (TC.mrk fun f => TC.ac (Rs1.ifW trivial (Rs1.ifK Rs1.rd trivial)) (TC.ac (Rs1.bd r) (TC.num fun n => TC.xp (TC.bd h)) (TC.bd h))
    (TC.ac (Rs1.ifK Rs1.rd trivial) (TC.bd h) (TC.ifK Rs1.rd trivial (TC.rd fun x => TC.bd h) trivial))) (TC.nop h)
theorem TC.field {g : AT → Pg} (h : ∀ x, TC b (g x)) : TC b (Aw3 g) := TC.mrk fun f => TC.nm fun x => TC.xp (TC.ifW (Rs1.mrk fun _ => Rs1.rd) trivial (TC.mrk fun f2 => TC.rd fun t => TC.bd fun y => TC.bd h) trivial)
theorem TC.param {g : AT → Pg} (r : ∀ x, Rs1 (g x)) (h : ∀ x, TC b (g x)) : TC b (AvU g) := TC.mrk fun f => TC.ac Rs1.nm (TC.nm fun x => TC.written (fun t => Rs1.bd r) fun t => TC.bd h) (TC.nm fun x => TC.written (fun t => Rs1.bd r) fun t => TC.bd h)
theorem TC.elem {e : El} {g : AT → Pg} (r : ∀ x, Rs1 (g x)) (h : ∀ x, TC b (g x)) : TC b (elemP e g) := by
  cases e with
  | fd => exact TC.field h
  | pa => exact TC.param r h
  | ex => exact TC.call (fun v => r _) fun v => h _
theorem TC.list {e : El} {g : List AT → Pg} (r : ∀ x, Rs1 (g x)) (h : ∀ x, TC b (g x)) : TC b (listP e g) := TC.elem (fun x => Rs1.call fun v => r _) fun x => TC.call (fun v => r _) fun v => h _
theorem TC.record {acc : AT → List AT} : TC false (AkA fun x => Pg.lst (.pg (acc x))) := TC.mrk fun f => TC.rea <| TC.nm fun x => TC.xp (TC.list (fun l => Rs1.xp) fun l => TC.xp (TC.bd fun x => TC.pg))
theorem TC.proc {acc : AT → List AT} : TC false (procP fun x => Pg.lst (.pg (acc x))) := TC.mrk fun f => TC.rea <| TC.nm fun x => TC.mrk fun f => TC.xp (TC.ifW Rs1.xp (Rs1.list fun l => Rs1.xp)
    (TC.xp (TC.bd fun a => TC.written (fun t => Rs1.bk) fun t => TC.bk fun b => TC.bd fun x => TC.pg)) (TC.list (fun l => Rs1.xp) fun l => TC.xp (TC.bd fun a => TC.written (fun t => Rs1.bk) fun t => TC.bk fun b => TC.bd fun x => TC.pg)))
theorem TC.block : TC true (prog .bk) := TC.mrk fun f => TC.ac trivial (TC.call (fun r => Rs1.xp) fun r => TC.xp (TC.nod _ _ _ _)) trivial
end
section
variable {w w' : Nat → Wd} {m : Nat}
theorem bkR : ∀ n, BkR (runN w n)
  | 0 => fun k v k1 h => by cases h
  | n + 1 => fun k v k1 h => rs1 (Ak6 n) (bkR n) (prog .bk) (Rs1.mrk fun f => Rs1.ifW trivial trivial) k v k1 h
theorem agN (ha : ∀ k, k < m → w k = w' k) : ∀ n x k v k1, runN w n x k [] = some (v, k1, []) → k1 < m → runN w' n x k [] = some (v, k1, [])
  | 0, _, _, _, _, h, _ => by cases h
  | n + 1, x, k, v, k1, h, h1 => agP ha (Ak6 n) (agN ha n) (prog x) k v k1 (Lk.all x _) h h1
theorem agB (ha : ∀ k, k < m → w k = w' k) : ∀ n k v k1, runN w n .bk k [] = some (v, k1, []) → k1 ≤ m → runN w' n .bk k [] = some (v, k1, [])
  | 0, _, _, _, h, _ => by cases h
  | n + 1, k, v, k1, h, h1 => tcP ha (Ak6 n) (bkR n) (agN ha n) (agB ha n) h1 (b := true) (fun _ => rfl) (fun h => by cases h) (prog .bk) TC.block k h
theorem agG (ha : ∀ k, k < m → w k = w' k) (hm : (w m).1 = 5) (h5 : ∀ k, k < m → (w k).1 ≠ 5) {v : Rs} {n2 : Nat} {R2 : Rs × Nat × List AD} (h2 : runN w' n2 (.pg v.2) m [] = some R2) :
    ∀ n acc k, k ≤ m → runN w n (.pg acc) k [] = some (v, m, []) → runN w' (n2 + n) (.pg acc) k [] = some R2
  | 0, _, _, _, h => by cases h
  | n + 1, acc, k, hk, h => by
    have h' : runP w (runN w n) (prog (.pg acc)) k [] = some (v, m, []) := h;rcases Nat.lt_or_ge k m with hlt | hge
    · have hw := h5 k hlt;have e := ha k hlt
      have go : ∀ p, TC false p → runP w (runN w n) p k [] = some (v, m, []) → runP w' (runN w' (n2 + n)) p k [] = some R2 := fun p hp h =>
        tcP ha (Ak6 n) (bkR n) (fun x k v k1 h h1 => Bz4 (by omega) (agN ha n x k v k1 h h1)) (fun k v k1 h h1 => Bz4 (by omega) (agB ha n k v k1 h h1)) (Nat.le_refl m) (b := false) (fun h => by cases h)
          (fun _ a k h => by
            rcases Nat.lt_or_ge m k with hk | hk
            · have := (Ak6 n _ _ _ _ _ _ h).1; omega
            · exact agG ha hm h5 h2 n a k hk h) p hp k h
      show runP w' (runN w' (n2 + n)) (prog (.pg acc)) k [] = some R2;simp only [prog, Pg.ifK, runP] at h' ⊢;rw [if_neg hw] at h';rw [← e, if_neg hw];simp only [Pg.ifW, runP] at h' ⊢;rw [← e];by_cases c1 : [wRec].contains (w k).2 = true
      · rw [if_pos c1] at h' ⊢;exact go _ TC.record h'
      · rw [if_neg c1] at h' ⊢;simp only [runP] at h' ⊢;rw [← e];by_cases c2 : [wProc].contains (w k).2 = true
        · rw [if_pos c2] at h' ⊢;exact go _ TC.proc h'
        · rw [if_neg c2] at h';simp only [runP] at h';exact absurd (BqE (Ak6 n) h') (rp_ne _ _ _ _)
    · have : k = m := by omega
      subst this;have h'' : runP w (runN w n) (if (w k).1 = 5 then .ret (default, acc) else _) k [] = some (v, k, []) := h'
      rw [if_pos hm] at h'';cases h'';exact Bz4 (by omega) h2
end
end Go.Abs.Z

namespace Go.Abs.Z
open Pg
section
variable (d : Nat)
mutual
def AT.sh : AT → AT
  | .mk kd tx f k b ks => .mk kd tx (f + d) (k + d) b (shs ks)
def shs : List AT → List AT
  | [] => []
  | x :: xs => x.sh :: shs xs
end
def AD.sh (x : AD) : AD := ⟨x.c, x.i + d, x.t⟩
end
theorem Bz2 (d : Nat) : ∀ xs : List AT, shs d xs = xs.map (AT.sh d)
  | [] => rfl
  | x :: xs => by rw [shs, Bz2 d xs]; rfl
def NT.sh (d : Nat) (pre : List AT) : NT → NT
  | .lp L f x => .lp L (f + d) (x.sh d)
  | .tl e acc => .tl e (shs d acc)
  | .sts acc => .sts (shs d acc)
  | .sk f => .sk (f + d)
  | .pg acc => .pg (pre ++ shs d acc)
  | x => x
def RV (d : Nat) (pre : List AT) : NT → Rs → Rs → Prop
  | .tl _ _, v, v' => v'.2 = shs d v.2
  | .sts _, v, v' => v'.2 = shs d v.2
  | .pg _, v, v' => v'.2 = pre ++ shs d v.2
  | .sk _, _, _ => True
  | .sp, _, _ => True
  | _, v, v' => v'.1 = v.1.sh d
inductive Sh (d : Nat) (pre : List AT) (R : Rs → Rs → Prop) : Pg → Pg → Prop
  | ret {v v' : Rs} : R v v' → Sh d pre R (.ret v) (.ret v')
  | look {f f' : Wd → Wd → Nat → Pg} : (∀ a b k, Sh d pre R (f a b k) (f' a b (k + d))) → Sh d pre R (.look f) (.look f')
  | read {p p' : Pg} : Sh d pre R p p' → Sh d pre R (.read p) (.read p')
  | report {e : Nat} {t : List UInt8} {p p' : Pg} : Sh d pre R p p' → Sh d pre R (.report e t p) (.report e t p')
  | call {x : NT} {f f' : Rs → Pg} : (∀ v v', RV d pre x v v' → Sh d pre R (f v) (f' v')) → Sh d pre R (.call x f) (.call (x.sh d pre) f')
theorem rp_sh (d : Nat) (D : List AD) (c k : Nat) (t : List UInt8) : rp (D.map (AD.sh d)) c (k + d) t = (rp D c k t).map (AD.sh d) := by
  have e : (D.map (AD.sh d)).getLast?.map AD.i = some (k + d) ↔ D.getLast?.map AD.i = some k := by
    rw [List.getLast?_map, Option.map_map]
    cases D.getLast? with
    | none => simp
    | some x => simp [AD.sh]
  unfold rp;by_cases h : D.getLast?.map AD.i = some k
  · rw [if_pos h, if_pos (e.2 h)]
  · rw [if_neg h, if_neg (fun x => h (e.1 x)), List.map_append]; rfl
section
variable {d : Nat} {pre : List AT} {R : Rs → Rs → Prop} {w w' : Nat → Wd}
theorem shP (hw : ∀ k, w' (k + d) = w k) {c c' : NT → Nat → List AD → Ans3} (hc : ∀ x k D v k1 D1, c x k D = some (v, k1, D1) → ∃ v', c' (x.sh d pre) (k + d) (D.map (AD.sh d)) = some (v', k1 + d, D1.map (AD.sh d)) ∧ RV d pre x v v') {p p' : Pg} (hp : Sh d pre R p p') :
    ∀ k D v k1 D1, runP w c p k D = some (v, k1, D1) → ∃ v', runP w' c' p' (k + d) (D.map (AD.sh d)) = some (v', k1 + d, D1.map (AD.sh d)) ∧ R v v' := by
  induction hp with
  | ret h => intro k D v k1 D1 e; cases e; exact ⟨_, rfl, h⟩
  | look h ih =>
    intro k D v k1 D1 e;obtain ⟨v', e', hr⟩ := ih (w k) (w (k + 1)) k k D v k1 D1 e;refine ⟨v', ?_, hr⟩
    simp only [runP];rw [hw k, show k + d + 1 = k + 1 + d by omega, hw (k + 1)]
    exact e'
  | read h ih =>
    intro k D v k1 D1 e;simp only [runP] at e ⊢
    split at e
    · cases e
    · rename_i h5;rw [hw k, if_neg h5, show k + d + 1 = k + 1 + d by omega]
      exact ih _ _ _ _ _ e
  | report h ih =>
    intro k D v k1 D1 e;simp only [runP] at e ⊢;rw [rp_sh];exact ih _ _ _ _ _ e
  | call h ih =>
    intro k D v k1 D1 e;simp only [runP] at e ⊢;obtain ⟨⟨u, k2, D2⟩, g1, g2⟩ := Option.bind_eq_some_iff.1 e;obtain ⟨u', g3, g4⟩ := hc _ _ _ _ _ _ g1;obtain ⟨v', g5, g6⟩ := ih u u' g4 _ _ _ _ _ g2;exact ⟨v', by rw [g3]; exact g5, g6⟩
variable {p q p' q' : Pg}
abbrev SG (d : Nat) (pre : List AT) (R : Rs → Rs → Prop) (g g' : AT → Pg) : Prop := ∀ x, Sh d pre R (g x) (g' (x.sh d))
abbrev SL (d : Nat) (pre : List AT) (R : Rs → Rs → Prop) (g g' : List AT → Pg) : Prop := ∀ x, Sh d pre R (g x) (g' (shs d x))
theorem Sh.ite {c : Prop} [Decidable c] (hp : Sh d pre R p p') (hq : Sh d pre R q q') : Sh d pre R (if c then p else q) (if c then p' else q') := by split <;> assumption
theorem Sh.ifW {ws : List (List UInt8)} (hp : Sh d pre R p p') (hq : Sh d pre R q q') : Sh d pre R (Pg.ifW ws p q) (Pg.ifW ws p' q') := .look fun a b k => Sh.ite hp hq
theorem Sh.ifK {j : Nat} (hp : Sh d pre R p p') (hq : Sh d pre R q q') : Sh d pre R (Pg.ifK j p q) (Pg.ifK j p' q') := .look fun a b k => Sh.ite hp hq
theorem Sh.ac {ws : List (List UInt8)} (hp : Sh d pre R p p') (hq : Sh d pre R q q') : Sh d pre R (Pg.ifW ws (.read p) q) (Pg.ifW ws (.read p') q') := Sh.ifW (.read hp) hq
theorem Sh.mrk {g g' : Nat → Pg} (h : ∀ k, Sh d pre R (g k) (g' (k + d))) : Sh d pre R (Pg.mrk g) (Pg.mrk g') := .look fun a b k => h k
theorem Sh.xp {x : List UInt8} (h : Sh d pre R p p') : Sh d pre R (Pg.xp x p) (Pg.xp x p') := Sh.ac h (.report h)
theorem Sh.rd {g g' : List UInt8 → Pg} (h : ∀ x, Sh d pre R (g x) (g' x)) : Sh d pre R (Pg.rd g) (Pg.rd g') := .look fun a b k => .read (h _)
theorem Sh.nm {g g' : List UInt8 → Pg} (h : ∀ x, Sh d pre R (g x) (g' x)) : Sh d pre R (Pg.nm g) (Pg.nm g') := Sh.ifK (Sh.rd h) (.report (h _))
theorem Sh.num {g g' : List UInt8 → Pg} (h : ∀ x, Sh d pre R (g x) (g' x)) : Sh d pre R (Pg.num g) (Pg.num g') := Sh.ifK (Sh.rd fun x => h _) (.report (h _))
theorem Sh.bd {kd : Nat} {tx : List UInt8} {f : Nat} {b : Bool} {ks : List AT} {g g' : AT → Pg} (h : SG d pre R g g') : Sh d pre R (Pg.bd kd tx f b ks g) (Pg.bd kd tx (f + d) b (shs d ks) g') := .look fun a _ k => h (.mk kd tx f k b ks)
theorem Sh.nod {kd : Nat} {tx : List UInt8} {f : Nat} {ks : List AT} (h : ∀ (x : AT), R (x, []) (x.sh d, [])) : Sh d pre R (Pg.nod kd tx f ks) (Pg.nod kd tx (f + d) (shs d ks)) := Sh.bd fun x => .ret (h x)
theorem Sh.nop {g g' : AT → Pg} (h : SG d pre R g g') : Sh d pre R (Pg.nop g) (Pg.nop g') := Sh.mrk fun f => Sh.bd (ks := []) h
theorem Sh.miss {g g' : AT → Pg} (h : SG d pre R g g') : Sh d pre R (Pg.miss g) (Pg.miss g') := Sh.mrk fun f => Sh.bd (ks := []) h
theorem Sh.ex {L : Nat} {g g' : AT → Pg} (h : SG d pre R g g') : Sh d pre R (Pg.cl (.ex L) g) (Pg.cl (.ex L) g') := Sh.call (x := .ex L) fun v v' e => by
  have e : v'.1 = v.1.sh d := e;show Sh d pre R (g v.1) (g' v'.1);rw [e]; exact h _
theorem Sh.blk {g g' : AT → Pg} (h : SG d pre R g g') : Sh d pre R (Pg.cl .bk g) (Pg.cl .bk g') := Sh.call (x := .bk) fun v v' e => by
  have e : v'.1 = v.1.sh d := e;show Sh d pre R (g v.1) (g' v'.1);rw [e]; exact h _
theorem Sh.written {g g' : AT → Pg} (h : SG d pre R g g') : Sh d pre R (written g) (written g') :=
  Sh.ac (Sh.mrk fun f => Sh.ac (Sh.ac (Sh.num fun n => Sh.xp (Sh.bd (ks := []) h)) (Sh.bd (ks := []) h)) (Sh.ac (Sh.bd (ks := []) h) (Sh.ifK (Sh.rd fun x => Sh.bd (ks := []) h) (.report (Sh.miss h))))) (Sh.nop h)
theorem Sh.field {g g' : AT → Pg} (h : SG d pre R g g') : Sh d pre R (Aw3 g) (Aw3 g') := Sh.mrk fun f => Sh.nm fun x => Sh.xp (Sh.ifW (Sh.mrk fun f2 => Sh.rd fun t => Sh.bd (ks := []) fun y => Sh.bd (ks := [y]) h) (.report (Sh.miss fun y => Sh.bd (ks := [y]) h)))
theorem Sh.param {g g' : AT → Pg} (h : SG d pre R g g') : Sh d pre R (AvU g) (AvU g') := Sh.mrk fun f => Sh.ac (Sh.nm fun x => Sh.written fun t => Sh.bd (ks := [t]) h) (Sh.nm fun x => Sh.written fun t => Sh.bd (ks := [t]) h)
theorem Sh.elem {e : El} {g g' : AT → Pg} (h : SG d pre R g g') : Sh d pre R (elemP e g) (elemP e g') := by
  cases e with
  | fd => exact Sh.field h
  | pa => exact Sh.param h
  | ex => exact Sh.ex h
theorem Sh.list {e : El} {g g' : List AT → Pg} (h : SL d pre R g g') : Sh d pre R (listP e g) (listP e g') := Sh.elem fun x => Sh.call (x := .tl e [x]) fun v v' hv => by
  have hv : v'.2 = shs d v.2 := hv;rw [hv]; exact h _
theorem Sh.record {g g' : AT → Pg} (h : SG d pre R g g') : Sh d pre R (AkA g) (AkA g') := Sh.mrk fun f => .read (Sh.nm fun x => Sh.xp (Sh.list fun l => Sh.xp (Sh.bd h)))
theorem Sh.params {g g' : AT → Pg} (h : SG d pre R g g') : Sh d pre R (AvH g) (AvH g') := Sh.mrk fun f => Sh.xp (Sh.ifW (Sh.xp (Sh.bd (ks := []) h)) (Sh.list fun l => Sh.xp (Sh.bd h)))
theorem Sh.proc {g g' : AT → Pg} (h : SG d pre R g g') : Sh d pre R (procP g) (procP g') := Sh.mrk fun f => .read (Sh.nm fun x => Sh.params fun a => Sh.written fun t => Sh.blk fun b => Sh.bd (ks := [a, t, b]) h)
theorem Sh.args {g g' : List AT → Pg} (h : SL d pre R g g') : Sh d pre R (argsP g) (argsP g') := .read (Sh.ifW (Sh.xp (h [])) (Sh.list fun l => Sh.xp (h l)))
theorem Sh.variable {g g' : AT → Pg} (h : SG d pre R g g') : Sh d pre R (AxU g) (AxU g') := Sh.mrk fun f => Sh.nm fun x => Sh.bd (ks := []) h
theorem Sh.place {g g' : AT → Pg} (h : SG d pre R g g') : Sh d pre R (AkN g) (AkN g') := Sh.mrk fun f => Sh.variable fun v => Sh.ac (Sh.ex fun y => Sh.xp (Sh.bd (ks := [v, y]) h)) (Sh.ac (Sh.nm fun x => Sh.bd (ks := [v]) h) (h v))
theorem Sh.one (h1 : ∀ x : AT, R (x, []) (x.sh d, [])) (x : AT) : Sh d pre R (.ret (x, [])) (.ret (x.sh d, [])) := .ret (h1 x)
theorem Sh.lv4 (h1 : ∀ x : AT, R (x, []) (x.sh d, [])) : Sh d pre R lv4P lv4P := Sh.mrk fun f => Sh.ex fun x => Sh.ifW (Sh.rd fun o => Sh.ex fun y => Sh.nod (ks := [x, y]) h1) (Sh.one h1 x)
theorem Sh.prim (h1 : ∀ x : AT, R (x, []) (x.sh d, [])) : Sh d pre R primP primP := Sh.mrk fun f => Sh.ifK (Sh.rd fun x => Sh.nod (ks := []) h1) (Sh.ifW (Sh.rd fun x => Sh.nod (ks := []) h1) (.look fun a b k => Sh.ite (Sh.rd fun x => Sh.args fun l => Sh.nod h1) (Sh.ite (Sh.place fun x => Sh.one h1 x)
  (Sh.ac (Sh.list fun l => Sh.xp (Sh.nod h1)) (Sh.ac (Sh.xp (Sh.variable fun v => Sh.xp (Sh.nod (ks := [v]) h1))) (Sh.ac (Sh.ex fun x => Sh.xp (Sh.one h1 x)) (.report (Sh.miss fun x => Sh.one h1 x))))))))
end
theorem sh_all (d : Nat) (pre : List AT) : ∀ x : NT, Sh d pre (RV d pre x) (prog x) (prog (x.sh d pre))
  | .ex L => by
    have h1 : ∀ x : AT, RV d pre (.ex L) (x, []) (x.sh d, []) := fun x => rfl
    by_cases h3 : L = 3
    · subst h3; exact Sh.mrk fun f => Sh.ac (Sh.ex fun x => Sh.nod (ks := [x]) h1) (Sh.lv4 h1)
    · by_cases h7 : L = 7
      · subst h7; exact Sh.mrk fun f => Sh.ac (Sh.ex fun x => Sh.nod (ks := [x]) h1) (Sh.prim h1)
      · show Sh d pre _ (prog (.ex L)) (prog (.ex L));rw [prog]
        · exact Sh.mrk fun f => Sh.ex fun x => Sh.call (x := .lp L f x) fun v v' e => .ret e
        · exact fun h => h3 h
        · exact fun h => h7 h
  | .lp L f x => Sh.ifW (Sh.rd fun o => Sh.ex fun y => Sh.bd (ks := [x, y]) fun z => Sh.call (x := .lp L f z) fun v v' e => .ret e) (.ret rfl)
  | .tl e acc => Sh.ac (Sh.elem fun x => by
      have := Sh.call (d := d) (pre := pre) (R := RV d pre (.tl e acc)) (x := .tl e (acc ++ [x])) (f := .ret) (f' := .ret) fun v v' h => .ret h
      have e2 : (NT.tl e (acc ++ [x])).sh d pre = .tl e (shs d acc ++ [x.sh d]) := by simp [NT.sh, Bz2]
      rw [e2] at this; exact this) (.ret rfl)
  | .bk => Sh.mrk fun f => Sh.ac (Sh.call (x := .sts []) fun r r' e => by
      have e : r'.2 = shs d r.2 := e;rw [e]; exact Sh.xp (Sh.nod fun x => rfl)) (.report (Sh.bd (ks := []) fun x => .ret rfl))
  | .sts acc => Sh.ifW (.ret rfl) (Sh.ifK (.ret rfl) (Sh.call (x := .st) fun r r' e => by
      have e : r'.1 = r.1.sh d := e;have := Sh.call (d := d) (pre := pre) (R := RV d pre (.sts acc)) (x := .sts (acc ++ [r.1])) (f := .ret) (f' := .ret) fun v v' h => .ret h
      have e2 : (NT.sts (acc ++ [r.1])).sh d pre = .sts (shs d acc ++ [r'.1]) := by simp [NT.sh, Bz2, e]
      rw [e2] at this; exact this))
  | .st => by
    have h1 : ∀ x : AT, RV d pre .st (x, []) (x.sh d, []) := fun x => rfl
    exact Sh.ifW (Sh.mrk fun f => .read (Sh.nm fun x => Sh.written fun t => Sh.xp (Sh.ex fun v => Sh.xp (Sh.nod (ks := [t, v]) h1)))) (Sh.ifW (Sh.call (x := .br) fun v v' e => .ret e) (Sh.ifW (Sh.mrk fun f => .read (Sh.ex fun c => Sh.blk fun b => Sh.nod (ks := [c, b]) h1))
      (Sh.ifW (Sh.mrk fun f => .read (Sh.nm fun x => Sh.xp (Sh.ex fun a => Sh.xp (Sh.ex fun c => Sh.blk fun b => Sh.nod (ks := [a, c, b]) h1))))
      (Sh.ifW (Sh.mrk fun f => .read (.look fun a b k => Sh.ite (Sh.ex fun x => Sh.xp (Sh.nod (ks := [x]) h1)) (Sh.nop fun x => Sh.xp (Sh.nod (ks := [x]) h1))))
      (Sh.ifW (Sh.mrk fun f => .read (Sh.ex fun x => Sh.xp (Sh.nod (ks := [x]) h1)))
      (Sh.ifK (Sh.mrk fun f => .look fun a b k => Sh.ite (Sh.rd fun x => Sh.args fun l => Sh.xp (Sh.nod h1)) (Sh.place fun x => Sh.xp (Sh.ex fun y => Sh.xp (Sh.nod (ks := [x, y]) h1))))
      (.report (Sh.mrk fun f => Sh.call (x := .sk f) fun _ _ _ => Sh.nod (ks := []) h1))))))))
  | .br => by
    have h1 : ∀ x : AT, RV d pre .br (x, []) (x.sh d, []) := fun x => rfl
    exact Sh.mrk fun f => .read (Sh.ex fun c => Sh.blk fun b => Sh.ac (Sh.ifW (Sh.call (x := .br) fun o o' e => by
      have e : o'.1 = o.1.sh d := e;rw [e]; exact Sh.nod (ks := [c, b, o.1]) h1) (Sh.blk fun o => Sh.nod (ks := [c, b, o]) h1)) (Sh.nop fun o => Sh.nod (ks := [c, b, o]) h1))
  | .sk f => Sh.ifK (.ret trivial) (Sh.mrk fun k => by
      have r : ∀ v v', Sh d pre (RV d pre (.sk f)) (.ret v) (.ret v') := fun v v' => .ret trivial
      have c : Sh d pre (RV d pre (.sk f)) (Pg.lst (.sk f)) (Pg.lst (.sk (f + d))) := Sh.call (x := .sk f) fun _ _ _ => .ret trivial
      by_cases h : k = f
      · rw [if_pos h, if_pos (by omega)]
        exact Sh.ifW (r _ _) (Sh.rd fun x => Sh.ite (r _ _) c)
      · rw [if_neg h, if_neg (by omega)]
        exact Sh.ifW (r _ _) (Sh.rd fun x => Sh.ite (r _ _) c))
  | .sp => Sh.ifK (.ret trivial) (Sh.ifW (.ret trivial) (.read (Sh.call (x := .sp) fun _ _ _ => .ret trivial)))
  | .pg acc => by
    have go : ∀ x : AT, Sh d pre (RV d pre (.pg acc)) (Pg.lst (.pg (acc ++ [x]))) (Pg.lst (.pg ((pre ++ shs d acc) ++ [x.sh d]))) := fun x => by
      have := Sh.call (d := d) (pre := pre) (R := RV d pre (.pg acc)) (x := .pg (acc ++ [x])) (f := .ret) (f' := .ret) fun v v' h => .ret h
      have e2 : (NT.pg (acc ++ [x])).sh d pre = .pg ((pre ++ shs d acc) ++ [x.sh d]) := by simp [NT.sh, Bz2]
      rw [e2] at this; exact this
    exact Sh.ifK (.ret rfl) (Sh.ifW (Sh.record go) (Sh.ifW (Sh.proc go) (.report (Sh.mrk fun f => .read (Sh.call (x := .sp) fun _ _ _ => Sh.bd (ks := []) go)))))
theorem shN {d : Nat} {pre : List AT} {w w' : Nat → Wd} (hw : ∀ k, w' (k + d) = w k) : ∀ n x k D v k1 D1, runN w n x k D = some (v, k1, D1) → ∃ v', runN w' n (x.sh d pre) (k + d) (D.map (AD.sh d)) = some (v', k1 + d, D1.map (AD.sh d)) ∧ RV d pre x v v'
  | 0, _, _, _, _, _, _, h => by cases h
  | n + 1, x, k, D, v, k1, D1, h => shP hw (shN hw n) (sh_all d pre x) k D v k1 D1 h
end Go.Abs.Z

namespace Go.Abs.Z
open Go.Proofs
set_option linter.unusedVariables false
theorem BjR (b : List UInt8) : ∀ (q : Bool) (c : List UInt8), (skN q c < c.length → skN q (c ++ 10 :: b) = skN q c) ∧ (skN q c = c.length → skN q (c ++ 10 :: b) = c.length + 1 + skN false b)
  | q, [] => by
    refine ⟨fun h => by simp at h, fun _ => ?_⟩
    cases q <;> simp [skN, whB]
  | true, c :: l => by
    obtain ⟨f1, f2⟩ := BjR b false l;obtain ⟨t1, t2⟩ := BjR b true l;simp only [skN, List.cons_append, List.length_cons];split
    · exact ⟨fun h => by rw [f1 (by omega)], fun h => by rw [f2 (by omega)]; omega⟩
    · exact ⟨fun h => by rw [t1 (by omega)], fun h => by rw [t2 (by omega)]; omega⟩
  | false, c :: l => by
    obtain ⟨f1, f2⟩ := BjR b false l;obtain ⟨t1, t2⟩ := BjR b true l;simp only [skN, List.cons_append, List.length_cons];split
    · exact ⟨fun h => by rw [f1 (by omega)], fun h => by rw [f2 (by omega)]; omega⟩
    · split
      · exact ⟨fun h => by rw [t1 (by omega)], fun h => by rw [t2 (by omega)]; omega⟩
      · exact ⟨fun h => rfl, fun h => by omega⟩
theorem runL_lf (p : UInt8 → Bool) (hp : p 10 = false) (b : List UInt8) : ∀ c : List UInt8, runL p (c ++ 10 :: b) = runL p c
  | [] => by simp [runL, hp]
  | x :: c => by
    have := runL_lf p hp b c;simp only [runL, List.cons_append, List.takeWhile_cons] at this ⊢;split
    · simp only [List.length_cons, this]
    · rfl
theorem symN_lf (b : List UInt8) (x : UInt8) (c : List UInt8) : symN (x :: c ++ 10 :: b) = symN (x :: c) := by
  cases c with
  | nil => simp [symN]
  | cons y c => simp [symN]
theorem wrN_lf (b : List UInt8) : ∀ c : List UInt8, wrN (c ++ 10 :: b) = wrN c
  | [] => by simp [wrN, stopB, whB]
  | x :: c => by
    have h := wrN_lf b c
    have hs : stopB x (c ++ 10 :: b) = stopB x c := by
      unfold stopB;rw [show x :: (c ++ 10 :: b) = x :: c ++ 10 :: b from rfl, symN_lf]
    simp only [List.cons_append, wrN, hs, h]
theorem tokN_lf (b : List UInt8) {c : List UInt8} (hc : c ≠ []) : tokN (c ++ 10 :: b) = tokN c := by
  cases c with
  | nil => exact absurd rfl hc
  | cons x c =>
    have h1 := runL_lf woB (by decide) b (x :: c)
    have h2 := runL_lf diB (by decide) b (x :: c)
    have h3 := symN_lf b x c;have h4 := wrN_lf b c
    have h5 : (x :: c ++ 10 :: b).take (runL woB (x :: c)) = (x :: c).take (runL woB (x :: c)) := by
      rw [List.take_append_of_le_length (Ak7 _ _)]
    unfold tokN;rw [h1, h2, h3, h5];simp only [List.cons_append, List.headD_cons, List.tail_cons, h4]
    try rfl
def nf (t : Tk) : Tk := ⟨t.k, 0, t.a, t.e⟩
def shT (d : Nat) (t : Tk) : Tk := ⟨t.k, 0, t.a + d, t.e + d⟩
theorem scan_sh : ∀ (n n' : Nat) (l : List UInt8) (f d : Nat), l.length < n → l.length < n' → (scanF n l (f + d)).map nf = (scanF n' l f).map (shT d)
  | 0, _, _, _, _, h, _ => by omega
  | _ + 1, 0, _, _, _, _, h => by omega
  | n + 1, n' + 1, l, f, d, h, h' => by
    simp only [scanF];split
    · simp only [List.map_cons, List.map_nil, nf, shT, List.cons.injEq, Tk.mk.injEq, and_true, true_and]; omega
    · rename_i hr;have hp := (tok_wf (s := l.drop (skN false l)) (f := 0) (a := 0) rfl hr (Nat.le_refl _))
      have hlen : ((l.drop (skN false l)).drop (tokN (l.drop (skN false l))).2).length < l.length := by
        have h1 : (l.drop (skN false l)).length ≤ l.length := by rw [List.length_drop]; omega
        have h2 : 0 < (l.drop (skN false l)).length := List.length_pos_iff.2 hr;have h3 := hp.2.1;simp only [List.drop_zero] at h3;rw [List.length_drop]; omega
      have ih := scan_sh n n' ((l.drop (skN false l)).drop (tokN (l.drop (skN false l))).2) (f + skN false l + (tokN (l.drop (skN false l))).2) d (by omega) (by omega)
      rw [List.map_cons, List.map_cons, ← ih];simp only [nf, shT, List.cons.injEq, Tk.mk.injEq, true_and];refine ⟨⟨by omega, by omega⟩, ?_⟩
      rw [show f + d + skN false l + (tokN (l.drop (skN false l))).2 = f + skN false l + (tokN (l.drop (skN false l))).2 + d by omega]
theorem scan_ne : ∀ (n : Nat) (l : List UInt8) (f : Nat), scanF (n + 1) l f ≠ [] := by
  intro n l f;simp only [scanF]
  split <;> simp
theorem scan_lf (b : List UInt8) : ∀ (n N : Nat) (c : List UInt8) (f : Nat), c.length < n → c.length + 1 + b.length < N → (scanF N (c ++ 10 :: b) f).map nf = (scanF n c f).dropLast.map nf ++ (scanF (b.length + 1) b 0).map (shT (f + c.length + 1))
  | 0, _, _, _, h, _ => by omega
  | _ + 1, 0, _, _, _, h => by omega
  | n + 1, N + 1, c, f, h, h' => by
    obtain ⟨k1, k2⟩ := BjR b false c;have hk := AwQ false c;by_cases he : skN false c = c.length
    · have e := k2 he;have hc : c.drop (skN false c) = [] := by rw [he]; exact List.drop_length
      have hd : (c ++ 10 :: b).drop (skN false (c ++ 10 :: b)) = b.drop (skN false b) := by
        rw [e, show c.length + 1 + skN false b = c.length + (1 + skN false b) by omega, ← List.drop_drop, List.drop_left, Nat.add_comm 1]
        rfl
      have hl : scanF (n + 1) c f = [⟨5, f, f + skN false c, f + skN false c⟩] := by
        simp only [scanF]; rw [if_pos hc]
      rw [hl];simp only [List.dropLast_singleton, List.map_nil, List.nil_append];simp only [scanF];rw [hd, e];split
      · simp only [List.map_cons, List.map_nil, nf, shT, List.cons.injEq, Tk.mk.injEq, and_true, true_and]; omega
      · rename_i hr;have hp := (tok_wf (s := b.drop (skN false b)) (f := 0) (a := 0) rfl hr (Nat.le_refl _))
        have hlen : ((b.drop (skN false b)).drop (tokN (b.drop (skN false b))).2).length < b.length := by
          have h1 : (b.drop (skN false b)).length ≤ b.length := by rw [List.length_drop]; omega
          have h2 : 0 < (b.drop (skN false b)).length := List.length_pos_iff.2 hr;have h3 := hp.2.1;simp only [List.drop_zero] at h3;rw [List.length_drop]; omega
        have ih := scan_sh N b.length ((b.drop (skN false b)).drop (tokN (b.drop (skN false b))).2) (0 + skN false b + (tokN (b.drop (skN false b))).2) (f + c.length + 1) (by omega) (by omega)
        rw [List.map_cons, List.map_cons, ← ih];simp only [nf, shT, List.cons.injEq, Tk.mk.injEq, true_and];refine ⟨⟨by omega, by omega⟩, ?_⟩
        rw [show 0 + skN false b + (tokN (b.drop (skN false b))).2 + (f + c.length + 1) = f + (c.length + 1 + skN false b) + (tokN (b.drop (skN false b))).2 by omega]
    · have e := k1 (by omega)
      have hr : c.drop (skN false c) ≠ [] := by
        intro h; rw [List.drop_eq_nil_iff] at h; omega
      have hd : (c ++ 10 :: b).drop (skN false c) = c.drop (skN false c) ++ 10 :: b := List.drop_append_of_le_length hk;have hp := (tok_wf (s := c.drop (skN false c)) (f := 0) (a := 0) rfl hr (Nat.le_refl _));obtain ⟨_, p2, p3, _⟩ := hp;simp only [List.drop_zero, Nat.zero_add] at p2 p3
      have hlen : ((c.drop (skN false c)).drop (tokN (c.drop (skN false c))).2).length + skN false c + (tokN (c.drop (skN false c))).2 = c.length := by
        rw [List.length_drop] at p3 ⊢;rw [List.length_drop];omega
      have hd2 : (c.drop (skN false c) ++ 10 :: b).drop (tokN (c.drop (skN false c))).2 = (c.drop (skN false c)).drop (tokN (c.drop (skN false c))).2 ++ 10 :: b := List.drop_append_of_le_length p3;have ih := scan_lf b n N ((c.drop (skN false c)).drop (tokN (c.drop (skN false c))).2) (f + skN false c + (tokN (c.drop (skN false c))).2) (by omega) (by omega)
      have l1 : scanF (N + 1) (c ++ 10 :: b) f = ⟨(tokN (c.drop (skN false c))).1, f, f + skN false c, f + skN false c + (tokN (c.drop (skN false c))).2⟩ :: scanF N ((c.drop (skN false c)).drop (tokN (c.drop (skN false c))).2 ++ 10 :: b) (f + skN false c + (tokN (c.drop (skN false c))).2) := by
        simp only [scanF];rw [e, hd, if_neg (by simp), tokN_lf b hr, hd2]
      have l2 : scanF (n + 1) c f = ⟨(tokN (c.drop (skN false c))).1, f, f + skN false c, f + skN false c + (tokN (c.drop (skN false c))).2⟩ :: scanF n ((c.drop (skN false c)).drop (tokN (c.drop (skN false c))).2) (f + skN false c + (tokN (c.drop (skN false c))).2) := by
        simp only [scanF];rw [if_neg hr]
      have hne : scanF n ((c.drop (skN false c)).drop (tokN (c.drop (skN false c))).2) (f + skN false c + (tokN (c.drop (skN false c))).2) ≠ [] := by
        cases n with
        | zero => omega
        | succ n => exact scan_ne _ _ _
      rw [l1, l2, List.map_cons, List.dropLast_cons_of_ne_nil hne, List.map_cons, List.cons_append, ih];rw [show f + skN false c + (tokN (c.drop (skN false c))).2 + ((c.drop (skN false c)).drop (tokN (c.drop (skN false c))).2).length + 1 = f + c.length + 1 by omega]
theorem scanT_lf (a b : List UInt8) : (scanT (a ++ 10 :: b)).map nf = (scanT a).dropLast.map nf ++ (scanT b).map (shT (a.length + 1)) := by
  have := scan_lf b (a.length + 1) ((a ++ 10 :: b).length + 1) a 0 (by omega) (by simp; omega)
  rw [Nat.zero_add] at this;exact this
end Go.Abs.Z

namespace Go.Abs.Z
open Go.Proofs
set_option linter.unusedVariables false
abbrev cat (a b : List UInt8) : List UInt8 := (a ++ [10]) ++ b
theorem cat_eq (a b : List UInt8) : cat a b = a ++ 10 :: b := by simp
theorem Bj8 (f : Tk → Tk) (hf : ∀ t, (f t).k = t.k) (l : List Tk) : good (l.map f) = (good l).map f := by
  unfold good;rw [List.filter_map];congr 1;apply List.filter_congr;intro t _;simp [hf]
theorem good_last {s : List UInt8} {l : List Tk} (h : Tok0 s 0 l) : good l.dropLast = (good l).dropLast := by
  obtain ⟨⟨l0, g, e, hi⟩, _, _⟩ := h;subst e
  have : good (l0 ++ [⟨5, g, s.length, s.length⟩]) = good l0 ++ [⟨5, g, s.length, s.length⟩] := by
    unfold good; rw [List.filter_append]; rfl
  rw [this, List.dropLast_concat, List.dropLast_concat]
theorem toks_lf (a b : List UInt8) (ha : a.length < 100000) : (toksT (cat a b)).map nf = (toksT a).dropLast.map nf ++ (toksT b).map (shT (a.length + 1)) := by
  have h0 : Tok0 a 0 (scanT a) := Aj1 a (a.length + 1) 0 (by omega) (by omega)
  unfold toksT;rw [cat_eq, ← Bj8 nf (fun _ => rfl), scanT_lf, ← good_last h0, ← Bj8 nf (fun _ => rfl), ← Bj8 (shT _) (fun _ => rfl)]
  unfold good;rw [List.filter_append]
section
variable {a b : List UInt8}
theorem wd_nf (s : List UInt8) (t : Tk) : wd s (nf t) = wd s t := rfl
theorem wd_cat_a (b : List UInt8) {t : Tk} (h : t.e ≤ a.length) (h' : t.a ≤ t.e) : wd (cat a b) t = wd a t := by
  rw [cat_eq];unfold wd;rw [List.drop_append_of_le_length (by omega), List.take_append_of_le_length (by rw [List.length_drop]; omega)]
theorem wd_cat_b (a : List UInt8) (t : Tk) : wd (cat a b) (shT (a.length + 1) t) = wd b t := by
  unfold wd
  have : (cat a b).drop (t.a + (a.length + 1)) = b.drop t.a := by
    have e : cat a b = (a ++ [10]) ++ b := rfl;rw [e, Nat.add_comm, ← List.drop_drop];congr 1;have : a.length + 1 = (a ++ [10]).length := by simp
    rw [this, List.drop_left]
  show ((cat a b).drop (t.a + (a.length + 1))).take (t.e + (a.length + 1) - (t.a + (a.length + 1))) = _;rw [this, show t.e + (a.length + 1) - (t.a + (a.length + 1)) = t.e - t.a by omega]
theorem get_a (ha : a.length < 100000) {k : Nat} {t : Tk} (hk : k < (toksT a).length - 1) (ht : (toksT a)[k]? = some t) : ∃ u, (toksT (cat a b))[k]? = some u ∧ nf u = nf t := by
  have h := congrArg (fun l => l[k]?) (toks_lf a b ha)
  simp only [List.getElem?_map] at h
  rw [List.getElem?_append_left (by simp; omega), List.getElem?_map, List.getElem?_dropLast, if_pos hk, ht] at h
  cases hu : (toksT (cat a b))[k]? with
  | none => rw [hu] at h; simp at h
  | some u => rw [hu] at h; simp at h; exact ⟨u, rfl, h⟩
theorem get_b (ha : a.length < 100000) (k : Nat) : ((toksT (cat a b))[k + ((toksT a).length - 1)]?).map nf = ((toksT b)[k]?).map (shT (a.length + 1)) := by
  have h := congrArg (fun l => l[k + ((toksT a).length - 1)]?) (toks_lf a b ha)
  simp only [List.getElem?_map] at h
  rw [List.getElem?_append_right (by simp), List.length_map, List.length_dropLast, Nat.add_sub_cancel, List.getElem?_map] at h
  exact h
theorem w_a (ha : a.length < 100000) (k : Nat) (hk : k < (toksT a).length - 1) : wAt a (toksT a) k = wAt (cat a b) (toksT (cat a b)) k := by
  have H := AzA a (by omega)
  obtain ⟨t, ht⟩ := H.at (k := k) (by omega)
  obtain ⟨u, hu, e⟩ := get_a (b := b) ha hk ht;obtain ⟨o1, o2⟩ := H.ord _ _ ht;rw [AkD ht, AkD hu, ← wd_nf _ u, e, wd_nf, wd_cat_a b o2 o1];have : u.k = t.k := show (nf u).k = (nf t).k from congrArg Tk.k e
  rw [this]
theorem w_b (ha : a.length < 100000) (k : Nat) : wAt (cat a b) (toksT (cat a b)) (k + ((toksT a).length - 1)) = wAt b (toksT b) k := by
  have h := get_b (b := b) ha k;unfold wAt;cases h1 : (toksT (cat a b))[k + ((toksT a).length - 1)]? with
  | none =>
    cases h2 : (toksT b)[k]? with
    | none => rfl
    | some t => rw [h1, h2] at h; simp at h
  | some u =>
    cases h2 : (toksT b)[k]? with
    | none => rw [h1, h2] at h; simp at h
    | some t =>
      rw [h1, h2] at h;have e : nf u = shT (a.length + 1) t := by simpa using h
      have : u.k = t.k := show (nf u).k = (shT (a.length + 1) t).k from congrArg Tk.k e
      show (u.k, wd _ u) = (t.k, wd _ t);rw [this, ← wd_nf, e, wd_cat_b]
theorem t_b (ha : a.length < 100000) {k : Nat} (hk : k ≤ (toksT b).length - 1) (hb : b.length < 100000) : tA (toksT (cat a b)) (k + ((toksT a).length - 1)) = tA (toksT b) k + (a.length + 1) ∧ tE (toksT (cat a b)) (k + ((toksT a).length - 1)) = tE (toksT b) k + (a.length + 1) := by
  have h := get_b (b := b) ha k;obtain ⟨t, ht⟩ := (AzA b (by omega)).at hk
  rw [ht] at h;cases h1 : (toksT (cat a b))[k + ((toksT a).length - 1)]? with
  | none => rw [h1] at h; simp at h
  | some u =>
    rw [h1] at h;have e : nf u = shT (a.length + 1) t := by simpa using h
    rw [tA_eq h1, tE_eq h1, tA_eq ht, tE_eq ht];exact ⟨show (nf u).a = (shT (a.length + 1) t).a from congrArg Tk.a e, show (nf u).e = (shT (a.length + 1) t).e from congrArg Tk.e e⟩
def Dg.sh (d : Nat) (x : Dg) : Dg := ⟨x.c, x.a + d, x.e + d, x.t⟩
theorem lexP_nf (s : List UInt8) : ∀ l : List Tk, lexP s (l.map nf) = lexP s l
  | [] => rfl
  | t :: l => by
    have : lexC s (nf t) = lexC s t := rfl;simp only [List.map_cons, lexP, this, lexP_nf s l];rfl
theorem lexP_a (b : List UInt8) : ∀ l : List Tk, (∀ t ∈ l, t.a ≤ t.e ∧ t.e ≤ a.length) → lexP (cat a b) l = lexP a l
  | [], _ => rfl
  | t :: l, h => by
    obtain ⟨o1, o2⟩ := h t (by simp)
    have : lexC (cat a b) t = lexC a t := by unfold lexC; rw [wd_cat_a b o2 o1]
    simp only [lexP, this, lexP_a b l (fun u hu => h u (by simp [hu]))]
theorem lexP_b (a : List UInt8) : ∀ l : List Tk, lexP (cat a b) (l.map (shT (a.length + 1))) = (lexP b l).map (Dg.sh (a.length + 1))
  | [] => rfl
  | t :: l => by
    have : lexC (cat a b) (shT (a.length + 1) t) = lexC b t := by unfold lexC; rw [wd_cat_b]; rfl
    simp only [List.map_cons, lexP, this, lexP_b a l]
    split <;> rfl
theorem lexs_cat (ha : a.length < 100000) : lexs (cat a b) = lexs a ++ (lexs b).map (Dg.sh (a.length + 1)) := by
  have h0 : Tok0 a 0 (scanT a) := Aj1 a (a.length + 1) 0 (by omega) (by omega)
  have e : lexs a = lexP a (scanT a).dropLast := by
    obtain ⟨⟨l0, g, e, hi⟩, _, _⟩ := h0;unfold lexs;rw [e, List.dropLast_concat, AkU];simp [lexP, lexC]
  unfold lexs at e ⊢;rw [← lexP_nf, cat_eq, scanT_lf, ← cat_eq, AkU, lexP_nf, lexP_b, e, lexP_a b];intro t ht;have := (h0.wf t (List.dropLast_subset _ ht)).1.ord;exact ⟨this.1, this.2.1⟩
theorem sd_sh {d : Nat} {l r : List Dg} (h : Sd l r) : Sd (l.map (Dg.sh d)) (r.map (Dg.sh d)) := by
  refine ⟨?_, h.perm.map _, fun k => ?_⟩
  · show (r.map _).Pairwise _;rw [List.pairwise_map];exact h.asc.imp fun {a b} h => Nat.add_le_add_right h d
  · have key : ∀ l : List Dg, fk k (l.map (Dg.sh d)) = if d ≤ k then (fk (k - d) l).map (Dg.sh d) else [] := by
      intro l;unfold fk;rw [List.filter_map];split
      · rename_i hk;congr 1;apply List.filter_congr;intro x _;show (x.a + d == k) = (x.a == k - d);rw [Bool.eq_iff_iff]; simp; omega
      · rename_i hk;rw [List.map_eq_nil_iff, List.filter_eq_nil_iff];intro x _ hx;have : x.a + d = k := by simpa [Dg.sh] using hx
        omega
    rw [key, key, h.keep]
theorem dgs_sh (ha : a.length < 100000) (hb : b.length < 100000) {D : List AD} (hD : ∀ d ∈ D, d.i ≤ (toksT b).length - 1) : dgs (toksT (cat a b)) (D.map (AD.sh ((toksT a).length - 1))) = (dgs (toksT b) D).map (Dg.sh (a.length + 1)) := by
  unfold dgs;rw [List.map_map, List.map_map];apply List.map_congr_left;intro d hd;obtain ⟨e1, e2⟩ := t_b ha (hD d hd) hb;show Dg.mk d.c (tA _ (d.i + _)) (tE _ (d.i + _)) d.t = Dg.mk d.c (tA _ d.i + _) (tE _ d.i + _) d.t;rw [e1, e2]
theorem follows (hla : a.length ≤ 300) (hlb : b.length ≤ 300) {na : Nat} {va vb : Rs} {ka kb : Nat} {Db : List AD} (hn : na < 900000000)
    (h1 : runN (wAt a (toksT a)) na (.pg []) 0 [] = some (va, ka, [])) (h2 : runN (wAt b (toksT b)) na (.pg []) 0 [] = some (vb, kb, Db)) :
    ∃ v, runN (wAt (cat a b) (toksT (cat a b))) (na + na) (.pg []) 0 [] = some (v, kb + ((toksT a).length - 1), Db.map (AD.sh ((toksT a).length - 1))) ∧ v.2 = va.2 ++ shs ((toksT a).length - 1) vb.2 := by
  have Ha := AzA a (by omega)
  have hD0 : Dok 0 [] := ⟨List.Pairwise.nil, fun d h => by cases h⟩
  have h5 := pg_end (w5 Ha) na [] 0 [] va ka [] hn h1 (Nat.zero_le _) hD0;have hle := ((AxB (w5 Ha) na) _ _ _ _ h1 (Nat.zero_le _) hD0).2.1;have hka : ka = (toksT a).length - 1 := K5 Ha hle h5;subst hka;obtain ⟨v', g1, g2⟩ := shN (d := (toksT a).length - 1) (pre := va.2) (w_b (b := b) (by omega)) na (.pg []) 0 [] vb kb Db h2
  have g2 : v'.2 = va.2 ++ shs _ vb.2 := g2
  have g1 : runN (wAt (cat a b) (toksT (cat a b))) na (.pg va.2) ((toksT a).length - 1) [] = some (v', kb + ((toksT a).length - 1), Db.map (AD.sh ((toksT a).length - 1))) := by
    have e : (NT.pg []).sh ((toksT a).length - 1) va.2 = .pg va.2 := by simp [NT.sh, shs]
    rw [e, Nat.zero_add] at g1;exact g1
  exact ⟨v', agG (w_a (b := b) (by omega)) (w5 Ha) (fun k hk h => by have := K5 Ha (by omega) h; omega) g1 na [] 0 (Nat.zero_le _) h1, g2⟩
end
mutual
def AT.sim : AT → AT → Prop
  | .mk kd tx _ _ _ ks, .mk kd' tx' _ _ _ ks' => kd = kd' ∧ tx = tx' ∧ sims ks ks'
def sims : List AT → List AT → Prop
  | [], [] => True
  | x :: xs, y :: ys => x.sim y ∧ sims xs ys
  | _, _ => False
end
mutual
theorem sim_refl : ∀ x : AT, x.sim x
  | .mk _ _ _ _ _ ks => ⟨rfl, rfl, AwR ks⟩
theorem AwR : ∀ xs : List AT, sims xs xs
  | [] => trivial
  | x :: xs => ⟨sim_refl x, AwR xs⟩
end
mutual
theorem sim_sh (d : Nat) : ∀ x : AT, (x.sh d).sim x
  | .mk _ _ _ _ _ ks => ⟨rfl, rfl, BxZ d ks⟩
theorem BxZ (d : Nat) : ∀ xs : List AT, sims (shs d xs) xs
  | [] => trivial
  | x :: xs => ⟨sim_sh d x, BxZ d xs⟩
end
theorem Bz0 : ∀ {xs ys : List AT}, sims xs ys → xs.length = ys.length
  | [], [], _ => rfl
  | x :: xs, y :: ys, h => by rw [List.length_cons, List.length_cons, Bz0 h.2]
end Go.Abs.Z
