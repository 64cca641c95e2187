/- A part of the proof: D27 D29 D34. -/
import Derived.Test.YtfahhgdeociahaaGreatDoorDa
import Derived.Test.YtfahhgdeociahaaGreatDoorDh
import Derived.Test.YtfahhgdeociahaaGreatDoorDf

set_option linter.unusedVariables false
set_option linter.unusedSimpArgs false
namespace Go.Abs.Z
set_option linter.unusedVariables false
open Pg
theorem rp_ne (D : List AD) (c k : Nat) (t : List UInt8) : rp D c k t ≠ [] := by
  unfold rp;split
  · rename_i h;intro e; subst e; simp at h
  · simp
def DM (c : NT → Nat → List AD → Ans3) : Prop := ∀ x k D v k1 D1, c x k D = some (v, k1, D1) → k ≤ k1 ∧ (D ≠ [] → D1 ≠ [])
section
variable {w w' : Nat → Wd} {m : Nat} {c c' : NT → Nat → List AD → Ans3}
theorem AvL (hc : DM c) : ∀ (p : Pg) k D v k1 D1, runP w c p k D = some (v, k1, D1) → k ≤ k1 ∧ (D ≠ [] → D1 ≠ []) := by
  intro p
  induction p with
  | ret v => intro k D v k1 D1 h; cases h; exact ⟨Nat.le_refl _, id⟩
  | look f ih => intro k D v k1 D1 h; exact ih _ _ _ k D v k1 D1 h
  | read p ih =>
    intro k D v k1 D1 h;simp only [runP] at h
    split at h
    · cases h
    · obtain ⟨h1, h2⟩ := ih _ _ _ _ _ h;exact ⟨by omega, h2⟩
  | report e t p ih =>
    intro k D v k1 D1 h;obtain ⟨h1, h2⟩ := ih _ _ _ _ _ h;exact ⟨h1, fun _ => h2 (rp_ne _ _ _ _)⟩
  | call x f ih =>
    intro k D v k1 D1 h;simp only [runP] at h;obtain ⟨⟨u, k2, D2⟩, h1, h2⟩ := Option.bind_eq_some_iff.1 h;obtain ⟨a1, a2⟩ := hc _ _ _ _ _ _ h1;obtain ⟨b1, b2⟩ := ih _ _ _ _ _ _ h2;have b1 : k2 ≤ k1 := b1;exact ⟨by omega, fun hD => b2 (a2 hD)⟩
theorem runN_dm : ∀ n, DM (runN w n)
  | 0 => fun x k D v k1 D1 h => by cases h
  | n + 1 => fun x k D v k1 D1 h => AvL (runN_dm n) (prog x) k D v k1 D1 h
theorem DM.nil (hc : DM c) {x : NT} {k k1 : Nat} {D : List AD} {v : Rs} (h : c x k D = some (v, k1, [])) : D = [] := by
  rcases D with _ | ⟨d, D⟩
  · rfl
  · exact absurd rfl ((hc _ _ _ _ _ _ h).2 (by simp))
theorem dm_nil (hc : DM c) {p : Pg} {k k1 : Nat} {D : List AD} {v : Rs} (h : runP w c p k D = some (v, k1, [])) : D = [] := by
  rcases D with _ | ⟨d, D⟩
  · rfl
  · exact absurd rfl ((AvL hc _ _ _ _ _ _ h).2 (by simp))
def Rd1 (a : Wd) (p : Pg) : Prop := ∀ (w : Nat → Wd) (c : NT → Nat → List AD → Ans3) k D v k1 D1, DM c → w k = a → runP w c p k D = some (v, k1, D1) → k < k1
def LkA : Pg → Wd → Prop
  | .ret _, _ => True
  | .look f, a => (∀ b k, LkA (f a b k) a) ∧ ∀ b b' k, f a b k = f a b' k ∨ Rd1 a (f a b k)
  | .read p, _ => ∀ a, LkA p a
  | .report _ _ p, a => LkA p a
  | .call _ f, _ => ∀ v a, LkA (f v) a
def Lk (p : Pg) : Prop := ∀ a, LkA p a
def Rs1 : Pg → Prop
  | .ret _ => False
  | .look f => ∀ a b k, Rs1 (f a b k)
  | .read _ => True
  | .report _ _ _ => True
  | .call x f => x = .bk ∨ ∀ v, Rs1 (f v)
def TC (b : Bool) : Pg → Prop
  | .ret _ => b = true
  | .look f => (∀ a b b' k, f a b k = f a b' k) ∧ ((∀ a a' b k, f a b k = f a' b k) ∨ ∀ a b k, Rs1 (f a b k)) ∧ ∀ a c k, TC b (f a c k)
  | .read p => TC b p
  | .report _ _ _ => True
  | .call x f => (b = false ∧ (∃ a, x = .pg a) ∧ f = .ret) ∨ ((x = .bk ∨ ∀ v, Rs1 (f v)) ∧ ∀ v, TC b (f v))
end
section
variable {p q : Pg}
theorem Lk.ifW {ws : List (List UInt8)} (hp : Lk p) (hq : Lk q) : Lk (Pg.ifW ws p q) := fun a => ⟨fun b k => by dsimp only; split <;> first | exact hp a | exact hq a, fun _ _ _ => .inl rfl⟩
theorem Lk.ifK {j : Nat} (hp : Lk p) (hq : Lk q) : Lk (Pg.ifK j p q) := fun a => ⟨fun b k => by dsimp only; split <;> first | exact hp a | exact hq a, fun _ _ _ => .inl rfl⟩
theorem Lk.mrk {g : Nat → Pg} (h : ∀ k, Lk (g k)) : Lk (Pg.mrk g) := fun a => ⟨fun b k => h k a, fun _ _ _ => .inl rfl⟩
theorem Lk.rea (h : Lk p) : Lk (.read p) := fun _ => h
theorem Lk.rep {e : Nat} {t : List UInt8} (h : Lk p) : Lk (.report e t p) := h
theorem Lk.ret {v : Rs} : Lk (.ret v) := fun _ => trivial
theorem Lk.call {x : NT} {f : Rs → Pg} (h : ∀ v, Lk (f v)) : Lk (.call x f) := fun _ => h
theorem Lk.ac {ws : List (List UInt8)} (hp : Lk p) (hq : Lk q) : Lk (Pg.ifW ws (.read p) q) := Lk.ifW (Lk.rea hp) hq
theorem Lk.xp {x : List UInt8} (h : Lk p) : Lk (Pg.xp x p) := Lk.ac h (Lk.rep h)
theorem Lk.rd {g : List UInt8 → Pg} (h : ∀ x, Lk (g x)) : Lk (Pg.rd g) := fun a => ⟨fun b k => h a.2, fun _ _ _ => .inl rfl⟩
theorem Lk.nm {g : List UInt8 → Pg} (h : ∀ x, Lk (g x)) : Lk (Pg.nm g) := Lk.ifK (Lk.rd h) (Lk.rep (h []))
theorem Lk.num {g : List UInt8 → Pg} (h : ∀ x, Lk (g x)) : Lk (Pg.num g) := Lk.ifK (Lk.rd fun x => h _) (Lk.rep (h []))
theorem Lk.bd {kd : Nat} {tx : List UInt8} {f : Nat} {b : Bool} {ks : List AT} {g : AT → Pg} (h : ∀ x, Lk (g x)) : Lk (Pg.bd kd tx f b ks g) := fun a => ⟨fun b k => h _ a, fun _ _ _ => .inl rfl⟩
theorem Lk.nod {kd : Nat} {tx : List UInt8} {f : Nat} {ks : List AT} : Lk (Pg.nod kd tx f ks) := Lk.bd fun _ => Lk.ret
theorem Lk.cl {x : NT} {g : AT → Pg} (h : ∀ x, Lk (g x)) : Lk (Pg.cl x g) := Lk.call fun v => h _
theorem Lk.lst {x : NT} : Lk (Pg.lst x) := Lk.call fun v => Lk.ret
theorem Lk.nop {g : AT → Pg} (h : ∀ x, Lk (g x)) : Lk (Pg.nop g) := Lk.mrk fun _ => Lk.bd h
theorem Lk.miss {g : AT → Pg} (h : ∀ x, Lk (g x)) : Lk (Pg.miss g) := Lk.mrk fun _ => Lk.bd h
theorem Lk.written {g : AT → Pg} (h : ∀ x, Lk (g x)) : Lk (written g) :=
  Lk.ac (Lk.mrk fun f => Lk.ac (Lk.ac (Lk.num fun n => Lk.xp (Lk.bd h)) (Lk.bd h)) (Lk.ac (Lk.bd h) (Lk.ifK (Lk.rd fun x => Lk.bd h) (Lk.miss h)))) (Lk.nop h)
theorem Lk.field {g : AT → Pg} (h : ∀ x, Lk (g x)) : Lk (AwF g) := Lk.mrk fun f => Lk.nm fun x => Lk.xp (Lk.ifW (Lk.mrk fun f2 => Lk.rd fun t => Lk.bd fun y => Lk.bd h) (Lk.miss fun y => Lk.bd h))
theorem Lk.param {g : AT → Pg} (h : ∀ x, Lk (g x)) : Lk (Aw3 g) := Lk.mrk fun f => Lk.ac (Lk.nm fun x => Lk.written fun t => Lk.bd h) (Lk.nm fun x => Lk.written fun t => Lk.bd h)
theorem Lk.elem {e : El} {g : AT → Pg} (h : ∀ x, Lk (g x)) : Lk (elemP e g) := by
  cases e with
  | fd => exact Lk.field h
  | pa => exact Lk.param h
  | ex => exact Lk.cl h
theorem Lk.list {e : El} {g : List AT → Pg} (h : ∀ x, Lk (g x)) : Lk (listP e g) := Lk.elem fun x => Lk.call fun v => h _
theorem Lk.record {g : AT → Pg} (h : ∀ x, Lk (g x)) : Lk (AkC g) := Lk.mrk fun f => Lk.rea (Lk.nm fun x => Lk.xp (Lk.list fun l => Lk.xp (Lk.bd h)))
theorem Lk.params {g : AT → Pg} (h : ∀ x, Lk (g x)) : Lk (AvO g) := Lk.mrk fun f => Lk.xp (Lk.ifW (Lk.xp (Lk.bd h)) (Lk.list fun l => Lk.xp (Lk.bd h)))
theorem Lk.proc {g : AT → Pg} (h : ∀ x, Lk (g x)) : Lk (procP g) := Lk.mrk fun f => Lk.rea (Lk.nm fun x => Lk.params fun a => Lk.written fun t => Lk.cl fun b => Lk.bd h)
theorem Lk.args {g : List AT → Pg} (h : ∀ x, Lk (g x)) : Lk (argsP g) := Lk.rea (Lk.ifW (Lk.xp (h [])) (Lk.list fun l => Lk.xp (h l)))
theorem Lk.variable {g : AT → Pg} (h : ∀ x, Lk (g x)) : Lk (AxU g) := Lk.mrk fun f => Lk.nm fun x => Lk.bd h
theorem Lk.place {g : AT → Pg} (h : ∀ x, Lk (g x)) : Lk (Ak0 g) := Lk.mrk fun f => Lk.variable fun v => Lk.ac (Lk.cl fun y => Lk.xp (Lk.bd h)) (Lk.ac (Lk.nm fun x => Lk.bd h) (h v))
theorem Lk.lv4 : Lk lv4P := Lk.mrk fun f => Lk.cl fun x => Lk.ifW (Lk.rd fun o => Lk.cl fun y => Lk.nod) Lk.ret
theorem rd1_rd {a : Wd} {g : List UInt8 → Pg} : Rd1 a (Pg.rd g) := fun w c k D v k1 D1 hm _ h => by
  have h' : (if (w k).1 = 5 then none else runP w c (g (w k).2) (k + 1) D) = some (v, k1, D1) := h
  split at h'
  · cases h'
  · have := (AvL hm _ _ _ _ _ _ h').1; omega
theorem BqA {a : Wd} (h0 : a.1 = 0) {g : AT → Pg} : Rd1 a (Ak0 g) := fun w c k D v k1 D1 hm ha h => by
  subst ha;have h' : runP w c (if (w k).1 = 0 then Pg.rd _ else _) k D = some (v, k1, D1) := h
  rw [if_pos h0] at h';exact rd1_rd w c k D v k1 D1 hm rfl h'
theorem Lk.ite {c : Prop} [Decidable c] (hp : Lk p) (hq : Lk q) : Lk (if c then p else q) := by split <;> assumption
theorem Lk.prim : Lk primP := Lk.mrk fun f => Lk.ifK (Lk.rd fun x => Lk.nod) (Lk.ifW (Lk.rd fun x => Lk.nod) fun a => ⟨fun b k => Lk.ite (Lk.rd fun x => Lk.args fun l => Lk.nod)
    (Lk.ite (Lk.place fun x => Lk.ret) (Lk.ac (Lk.list fun l => Lk.xp Lk.nod) (Lk.ac (Lk.xp (Lk.variable fun v => Lk.xp Lk.nod)) (Lk.ac (Lk.cl fun x => Lk.xp Lk.ret) (Lk.rep (Lk.miss fun x => Lk.ret)))))) a,
  fun b b' k => by
    by_cases h0 : a.1 = 0
    · refine .inr ?_
      dsimp only;split
      · exact rd1_rd
      · first | exact BqA h0 | (rw [if_pos h0]; exact BqA h0)
    · exact .inl (by simp only [h0, false_and, if_false])⟩)
theorem LkA.simple {a : Wd} (h0 : a.1 = 0) : LkA BzH a := ⟨fun _ k => ⟨fun b k => Lk.ite (Lk.rd fun x => Lk.args fun l => Lk.xp Lk.nod) (Lk.place fun x => Lk.xp (Lk.cl fun y => Lk.xp Lk.nod)) a, fun b b' k => .inr (by
    dsimp only;split
    · exact rd1_rd
    · exact BqA h0)⟩, fun _ _ _ => .inl rfl⟩
theorem Lk.stm : Lk (prog .st) :=
  Lk.ifW (Lk.mrk fun f => Lk.rea (Lk.nm fun x => Lk.written fun t => Lk.xp (Lk.cl fun v => Lk.xp Lk.nod))) (Lk.ifW Lk.lst (Lk.ifW (Lk.mrk fun f => Lk.rea (Lk.cl fun c => Lk.cl fun b => Lk.nod))
    (Lk.ifW (Lk.mrk fun f => Lk.rea (Lk.nm fun x => Lk.xp (Lk.cl fun a => Lk.xp (Lk.cl fun c => Lk.cl fun b => Lk.nod))))
    (Lk.ifW (Lk.mrk fun f => Lk.rea fun a => ⟨fun b k => Lk.ite (Lk.cl fun x => Lk.xp Lk.nod) (Lk.nop fun x => Lk.xp Lk.nod) a, fun _ _ _ => .inl rfl⟩)
    (Lk.ifW (Lk.mrk fun f => Lk.rea (Lk.cl fun x => Lk.xp Lk.nod))
    (fun a => ⟨fun b k => by
      dsimp only;split
      · rename_i h0; exact LkA.simple h0
      · exact Lk.rep (Lk.mrk fun f => Lk.call fun v => Lk.nod) a, fun _ _ _ => .inl rfl⟩))))))
theorem Lk.all : ∀ x : NT, Lk (prog x)
  | .ex L => by
    by_cases h3 : L = 3
    · subst h3; exact Lk.mrk fun f => Lk.ac (Lk.cl fun x => Lk.nod) Lk.lv4
    · by_cases h7 : L = 7
      · subst h7; exact Lk.mrk fun f => Lk.ac (Lk.cl fun x => Lk.nod) Lk.prim
      · rw [prog]
        · exact Lk.mrk fun f => Lk.cl fun x => Lk.lst
        · exact fun h => h3 h
        · exact fun h => h7 h
  | .lp L f x => Lk.ifW (Lk.rd fun o => Lk.cl fun y => Lk.bd fun z => Lk.lst) Lk.ret
  | .tl e acc => Lk.ac (Lk.elem fun x => Lk.lst) Lk.ret
  | .bk => Lk.mrk fun f => Lk.ac (Lk.call fun r => Lk.xp Lk.nod) (Lk.rep (Lk.bd fun x => Lk.ret))
  | .sts acc => Lk.ifW Lk.ret (Lk.ifK Lk.ret (Lk.cl fun x => Lk.lst))
  | .st => Lk.stm
  | .br => Lk.mrk fun f => Lk.rea (Lk.cl fun c => Lk.cl fun b => Lk.ac (Lk.ifW (Lk.cl fun o => Lk.nod) (Lk.cl fun o => Lk.nod)) (Lk.nop fun o => Lk.nod))
  | .sk f => Lk.ifK Lk.ret (Lk.mrk fun k => Lk.ite (Lk.ifW Lk.ret (Lk.rd fun x => Lk.ite Lk.ret Lk.lst)) (Lk.ifW Lk.ret (Lk.rd fun x => Lk.ite Lk.ret Lk.lst)))
  | .sp => Lk.ifK Lk.ret (Lk.ifW Lk.ret (Lk.rea Lk.lst))
  | .pg acc => Lk.ifK Lk.ret (Lk.ifW (Lk.record fun x => Lk.lst) (Lk.ifW (Lk.proc fun x => Lk.lst) (Lk.rep (Lk.mrk fun f => Lk.rea (Lk.call fun _ => Lk.bd fun x => Lk.lst)))))
variable {b : Bool}
theorem Rs1.bd {kd : Nat} {tx : List UInt8} {f : Nat} {b : Bool} {ks : List AT} {g : AT → Pg} (h : ∀ x, Rs1 (g x)) : Rs1 (Pg.bd kd tx f b ks g) := fun _ _ _ => h _
theorem Rs1.mrk {g : Nat → Pg} (h : ∀ k, Rs1 (g k)) : Rs1 (Pg.mrk g) := fun _ _ k => h k
theorem Rs1.ifW {ws : List (List UInt8)} (hp : Rs1 p) (hq : Rs1 q) : Rs1 (Pg.ifW ws p q) := fun a _ _ => by dsimp only; split <;> assumption
theorem Rs1.ifK {j : Nat} (hp : Rs1 p) (hq : Rs1 q) : Rs1 (Pg.ifK j p q) := fun a _ _ => by dsimp only; split <;> assumption
theorem Rs1.rd {g : List UInt8 → Pg} : Rs1 (Pg.rd g) := fun _ _ _ => trivial
theorem Rs1.xp {x : List UInt8} : Rs1 (Pg.xp x p) := Rs1.ifW trivial trivial
theorem Rs1.nm {g : List UInt8 → Pg} : Rs1 (Pg.nm g) := Rs1.ifK Rs1.rd trivial
theorem Rs1.num {g : List UInt8 → Pg} : Rs1 (Pg.num g) := Rs1.ifK Rs1.rd trivial
theorem Rs1.bk {g : AT → Pg} : Rs1 (Pg.cl .bk g) := .inl rfl
theorem Rs1.call {x : NT} {f : Rs → Pg} (h : ∀ v, Rs1 (f v)) : Rs1 (.call x f) := .inr h
theorem Rs1.written {g : AT → Pg} (h : ∀ x, Rs1 (g x)) : Rs1 (written g) := Rs1.ifW trivial (Rs1.mrk fun _ => Rs1.bd h)
theorem Rs1.elem {e : El} {g : AT → Pg} (h : ∀ x, Rs1 (g x)) : Rs1 (elemP e g) := by
  cases e with
  | fd => exact Rs1.mrk fun _ => Rs1.nm
  | pa => exact Rs1.mrk fun _ => Rs1.ifW trivial Rs1.nm
  | ex => exact Rs1.call fun v => h _
theorem Rs1.list {e : El} {g : List AT → Pg} (h : ∀ x, Rs1 (g x)) : Rs1 (listP e g) := Rs1.elem fun x => Rs1.call fun v => h _
theorem TC.look1 {f : Wd → Wd → Nat → Pg} (h1 : ∀ a b b' k, f a b k = f a b' k) (h2 : ∀ a b k, Rs1 (f a b k)) (h3 : ∀ a c k, TC b (f a c k)) : TC b (.look f) := ⟨h1, .inr h2, h3⟩
theorem TC.ifW {ws : List (List UInt8)} (rp : Rs1 p) (rq : Rs1 q) (hp : TC b p) (hq : TC b q) : TC b (Pg.ifW ws p q) := TC.look1 (fun _ _ _ _ => rfl) (Rs1.ifW rp rq) fun a c k => by split <;> assumption
theorem TC.ifK {j : Nat} (rp : Rs1 p) (rq : Rs1 q) (hp : TC b p) (hq : TC b q) : TC b (Pg.ifK j p q) := TC.look1 (fun _ _ _ _ => rfl) (Rs1.ifK rp rq) fun a c k => by split <;> assumption
theorem TC.rea (h : TC b p) : TC b (.read p) := h
theorem TC.ac {ws : List (List UInt8)} (rq : Rs1 q) (hp : TC b p) (hq : TC b q) : TC b (Pg.ifW ws (.read p) q) := TC.ifW trivial rq (TC.rea hp) hq
theorem TC.mrk {g : Nat → Pg} (h : ∀ k, TC b (g k)) : TC b (Pg.mrk g) := ⟨fun _ _ _ _ => rfl, .inl fun _ _ _ _ => rfl, fun _ _ k => h k⟩
theorem TC.bd {kd : Nat} {tx : List UInt8} {f : Nat} {b' : Bool} {ks : List AT} {g : AT → Pg} (h : ∀ x, TC b (g x)) : TC b (Pg.bd kd tx f b' ks g) := ⟨fun _ _ _ _ => rfl, .inl fun _ _ _ _ => rfl, fun _ _ _ => h _⟩
theorem TC.rd {g : List UInt8 → Pg} (h : ∀ x, TC b (g x)) : TC b (Pg.rd g) := TC.look1 (fun _ _ _ _ => rfl) Rs1.rd fun a _ _ => h a.2
theorem TC.xp {x : List UInt8} (h : TC b p) : TC b (Pg.xp x p) := TC.ifW trivial trivial h trivial
theorem TC.nm {g : List UInt8 → Pg} (h : ∀ x, TC b (g x)) : TC b (Pg.nm g) := TC.ifK Rs1.rd trivial (TC.rd h) trivial
theorem TC.num {g : List UInt8 → Pg} (h : ∀ x, TC b (g x)) : TC b (Pg.num g) := TC.ifK Rs1.rd trivial (TC.rd fun x => h _) trivial
theorem TC.nod (kd : Nat) (tx : List UInt8) (f : Nat) (ks : List AT) : TC true (Pg.nod kd tx f ks) := TC.bd fun _ => rfl
theorem TC.bk {g : AT → Pg} (h : ∀ x, TC b (g x)) : TC b (Pg.cl .bk g) := .inr ⟨.inl rfl, fun v => h _⟩
theorem TC.call {x : NT} {f : Rs → Pg} (hr : ∀ v, Rs1 (f v)) (h : ∀ v, TC b (f v)) : TC b (.call x f) := .inr ⟨.inr hr, h⟩
theorem TC.pg {acc : List AT} : TC false (Pg.lst (.pg acc)) := .inl ⟨rfl, ⟨_, rfl⟩, rfl⟩
theorem TC.nop {g : AT → Pg} (h : ∀ x, TC b (g x)) : TC b (Pg.nop g) := TC.mrk fun _ => TC.bd h
theorem TC.miss {g : AT → Pg} (h : ∀ x, TC b (g x)) : TC b (Pg.miss g) := TC.mrk fun _ => TC.bd h
theorem TC.written {g : AT → Pg} (r : ∀ x, Rs1 (g x)) (h : ∀ x, TC b (g x)) : TC b (written g) :=
  TC.ac (Rs1.mrk fun _ => Rs1.bd r) (TC.mrk fun f => TC.ac (Rs1.ifW trivial (Rs1.ifK Rs1.rd trivial)) (TC.ac (Rs1.bd r) (TC.num fun n => TC.xp (TC.bd h)) (TC.bd h))
    (TC.ac (Rs1.ifK Rs1.rd trivial) (TC.bd h) (TC.ifK Rs1.rd trivial (TC.rd fun x => TC.bd h) trivial))) (TC.nop h)
theorem TC.field {g : AT → Pg} (h : ∀ x, TC b (g x)) : TC b (AwF g) := TC.mrk fun f => TC.nm fun x => TC.xp (TC.ifW (Rs1.mrk fun _ => Rs1.rd) trivial (TC.mrk fun f2 => TC.rd fun t => TC.bd fun y => TC.bd h) trivial)
theorem TC.param {g : AT → Pg} (r : ∀ x, Rs1 (g x)) (h : ∀ x, TC b (g x)) : TC b (Aw3 g) := TC.mrk fun f => TC.ac Rs1.nm (TC.nm fun x => TC.written (fun t => Rs1.bd r) fun t => TC.bd h) (TC.nm fun x => TC.written (fun t => Rs1.bd r) fun t => TC.bd h)
theorem TC.elem {e : El} {g : AT → Pg} (r : ∀ x, Rs1 (g x)) (h : ∀ x, TC b (g x)) : TC b (elemP e g) := by
  cases e with
  | fd => exact TC.field h
  | pa => exact TC.param r h
  | ex => exact TC.call (fun v => r _) fun v => h _
theorem TC.list {e : El} {g : List AT → Pg} (r : ∀ x, Rs1 (g x)) (h : ∀ x, TC b (g x)) : TC b (listP e g) := TC.elem (fun x => Rs1.call fun v => r _) fun x => TC.call (fun v => r _) fun v => h _
theorem TC.record {acc : AT → List AT} : TC false (AkC fun x => Pg.lst (.pg (acc x))) := TC.mrk fun f => TC.rea <| TC.nm fun x => TC.xp (TC.list (fun l => Rs1.xp) fun l => TC.xp (TC.bd fun x => TC.pg))
theorem TC.proc {acc : AT → List AT} : TC false (procP fun x => Pg.lst (.pg (acc x))) := TC.mrk fun f => TC.rea <| TC.nm fun x => TC.mrk fun f => TC.xp (TC.ifW Rs1.xp (Rs1.list fun l => Rs1.xp)
    (TC.xp (TC.bd fun a => TC.written (fun t => Rs1.bk) fun t => TC.bk fun b => TC.bd fun x => TC.pg)) (TC.list (fun l => Rs1.xp) fun l => TC.xp (TC.bd fun a => TC.written (fun t => Rs1.bk) fun t => TC.bk fun b => TC.bd fun x => TC.pg)))
end
section
variable {w w' : Nat → Wd} {m : Nat}
end
end Go.Abs.Z

namespace Go.Abs.Z
set_option linter.unusedVariables false
open Go.Proofs Go.RowKit
theorem small_tok {s : List UInt8} (_hs : s.length ≤ 4096) : (toksT s).length ≤ s.length + 1 ∧ (lexs s).length ≤ s.length + 1 := by
  have hsc : (scanT s).length ≤ s.length + 1 := AjL (s.length + 1) s 0;exact ⟨Nat.le_trans (List.length_filter_le _ _) hsc, Nat.le_trans (AwT s _) hsc⟩
theorem Av1 {ls : List Tk} (ks : List AT) : ks.isEmpty = true → trPs ls ks = [] := by
  intro h;have := List.isEmpty_iff.1 h;subst this; rfl
mutual
theorem trP_wf {ls : List Tk} : ∀ x : AT, (trP ls x).wf
  | .mk kd tx f k b ks => ⟨fun h => Av1 ks h, trPs_wf ks⟩
theorem trPs_wf {ls : List Tk} : ∀ xs : List AT, Tr.wfs (trPs ls xs)
  | [] => trivial
  | x :: xs => ⟨trP_wf x, trPs_wf xs⟩
end
theorem K5 {s : List UInt8} {ls : List Tk} {m k : Nat} (H : Toks s ls m) (h : k ≤ m) (h5 : (wAt s ls k).1 = 5) : k = m := by
  rcases Nat.lt_or_ge k m with h' | h'
  · obtain ⟨t, ht⟩ := H.at h;have := H.kd k t ht h';rw [AvX ht] at h5
    simp only at h5
    omega
  · omega
theorem wok_toks {s : List UInt8} {ls : List Tk} {m : Nat} (H : Toks s ls m) : Wok (wAt s ls) m := by
  refine ⟨H.end', fun k hk h5 => ?_⟩
  have := K5 H hk h5;subst this;rw [H.end']
theorem runs (s : List UInt8) (hs : s.length ≤ 4096) (x : NT) (hx : okNT x) (hb : x ≠ .br) : ∃ v k D, runN (wAt s (toksT s)) 100000 x 0 [] = some (v, k, D) := by
  have H := AvI s (by omega)
  obtain ⟨l1, _⟩ := small_tok hs
  have hr : rk x ≤ 100 := by
    cases x with
    | ex L => rcases hx with rfl | rfl | rfl | rfl | rfl | rfl <;> decide
    | lp L f y => rcases hx with rfl | rfl | rfl | rfl <;> simp [rk]
    | _ => simp [rk]
  obtain ⟨⟨v, k, D⟩, h⟩ := run_all (wok_toks H) 100000 x 0 hx (fun e => absurd e hb) (by unfold mu; omega) (Nat.zero_le _) [] ⟨List.Pairwise.nil, fun d h => by cases h⟩
  exact ⟨v, k, D, h⟩
theorem runs_ok (s : List UInt8) (hs : s.length ≤ 4096) {x : NT} {v : Rs} {k : Nat} {D : List AD} (h : runN (wAt s (toksT s)) 100000 x 0 [] = some (v, k, D)) : k ≤ (toksT s).length - 1 ∧ Dok k D ∧ EI 100000 x 0 v k := by
  have H := AvI s (by omega)
  obtain ⟨c1, c2⟩ := ok_in (w5 H) 100000 (by omega)
  have hD0 : Dok 0 [] := ⟨List.Pairwise.nil, fun d h => by cases h⟩
  obtain ⟨o1, o2, o3⟩ := c1 _ _ _ _ h (Nat.zero_le _) hD0;exact ⟨o2, o3, c2 _ _ _ _ _ _ h (Nat.zero_le _) hD0⟩
end Go.Abs.Z

namespace Go.Abs.Z
open Pg
set_option linter.unusedVariables false
mutual
def AT.size : AT → Nat
  | .mk _ _ _ _ _ ks => 1 + sizes ks
def sizes : List AT → Nat
  | [] => 0
  | x :: xs => x.size + sizes xs
end
theorem AjT : ∀ (xs : List AT) (x : AT), sizes (xs ++ [x]) = sizes xs + x.size
  | [], x => by simp [sizes]
  | y :: xs, x => by simp only [List.cons_append, sizes, AjT xs x]; omega
theorem AqV (x : AT) : sizes [x] = x.size := by simp [sizes]
theorem AzD (x y : AT) : sizes [x, y] = x.size + y.size := by simp [sizes]
theorem AzE (x y z : AT) : sizes [x, y, z] = x.size + y.size + z.size := by simp [sizes]; omega
def vsz : NT → Rs → Nat
  | .tl _ _, v => sizes v.2
  | .sts _, v => sizes v.2
  | .pg _, v => sizes v.2
  | .sk _, _ => 1
  | .sp, _ => 0
  | _, v => v.1.size
def stopA (a : Wd) : Prop := stopW.contains a.2 = true ∨ a.1 = 5
instance (a : Wd) : Decidable (stopA a) := inferInstanceAs (Decidable (_ ∨ _))
def csz : NT → Nat → Wd → Nat
  | .ex _, _, _ => 1
  | .lp _ _ x, _, _ => x.size
  | .tl _ acc, _, _ => sizes acc
  | .bk, _, _ => 1
  | .sts acc, _, _ => sizes acc
  | .st, _, a => if stopA a then 1 else 0
  | .br, _, _ => 0
  | .sk f, k, a => if k = f ∧ ¬ stopA a then 0 else 1
  | .sp, _, _ => 0
  | .pg acc, _, _ => sizes acc
def Sz (R : Rs → Nat) : Pg → Nat → Wd → Nat → Prop
  | .ret v, _, _, c => R v ≤ c
  | .look f, k, a, c => ∀ b, Sz R (f a b k) k a c
  | .read p, k, a, c => a.1 ≠ 5 → ∀ a', Sz R p (k + 1) a' (c + 16)
  | .report _ _ p, k, a, c => Sz R p k a c
  | .call x f, k, a, c => ∀ v d k' a', vsz x v ≤ csz x k a + d → Sz R (f v) k' a' (c + d)
theorem szP {w : Nat → Wd} {c : NT → Nat → List AD → Ans3} (hm : DM c) (hc : ∀ x k D v k1 D1, c x k D = some (v, k1, D1) → vsz x v ≤ csz x k (w k) + 16 * (k1 - k)) {R : Rs → Nat} :
    ∀ (p : Pg) (k : Nat) (D : List AD) (v : Rs) (k1 : Nat) (D1 : List AD) (z : Nat), runP w c p k D = some (v, k1, D1) → Sz R p k (w k) z → R v ≤ z + 16 * (k1 - k) := by
  intro p
  induction p with
  | ret u => intro k D v k1 D1 z h hs; cases h; exact Nat.le_trans hs (Nat.le_add_right _ _)
  | look f ih => intro k D v k1 D1 z h hs; exact ih _ _ _ k D v k1 D1 z h (hs _)
  | read p ih =>
    intro k D v k1 D1 z h hs;simp only [runP] at h
    split at h
    · cases h
    · rename_i h5;have h1 := (AvL hm _ _ _ _ _ _ h).1;have := ih _ _ _ _ _ _ h (hs h5 _);omega
  | report e t p ih => intro k D v k1 D1 z h hs; exact ih _ _ _ _ _ _ h hs
  | call x f ih =>
    intro k D v k1 D1 z h hs;simp only [runP] at h;obtain ⟨⟨u, k2, D2⟩, g1, g2⟩ := Option.bind_eq_some_iff.1 h;have h1 : k ≤ k2 := (hm _ _ _ _ _ _ g1).1;have h2 : k2 ≤ k1 := (AvL hm _ _ _ _ _ _ g2).1;have h3 : R v ≤ z + 16 * (k2 - k) + 16 * (k1 - k2) := ih _ _ _ _ _ _ _ g2 (hs u (16 * (k2 - k)) k2 (w k2) (hc _ _ _ _ _ _ g1));omega
section
variable {R : Rs → Nat} {p q : Pg} {c : Nat}
def SzA (R : Rs → Nat) (p : Pg) (c : Nat) : Prop := ∀ k a, Sz R p k a c
theorem Sz.up : ∀ (p : Pg) (k : Nat) (a : Wd) (c c' : Nat), Sz R p k a c → c ≤ c' → Sz R p k a c' := by
  intro p
  induction p with
  | ret v => intro k a c c' h hc; exact Nat.le_trans h hc
  | look f ih => intro k a c c' h hc b; exact ih _ _ _ _ _ _ _ (h b) hc
  | read p ih => intro k a c c' h hc h5 a'; exact ih _ _ _ _ (h h5 a') (by omega)
  | report e t p ih => intro k a c c' h hc; exact ih _ _ _ _ h hc
  | call x f ih => intro k a c c' h hc v d k' a' hv; exact ih _ _ _ _ _ (h v d k' a' hv) (by omega)
theorem SzA.up {c' : Nat} (h : SzA R p c) (hc : c ≤ c') : SzA R p c' := fun k a => Sz.up p k a c c' (h k a) hc
theorem SzA.ret {v : Rs} (h : R v ≤ c) : SzA R (.ret v) c := fun _ _ => h
theorem SzA.rea (h : SzA R p (c + 16)) : SzA R (.read p) c := fun k a _ a' => h (k + 1) a'
theorem SzA.rea0 (h : SzA R p c) : SzA R (.read p) c := SzA.rea (h.up (by omega))
theorem SzA.rep {e : Nat} {t : List UInt8} (h : SzA R p c) : SzA R (.report e t p) c := fun k a => h k a
theorem SzA.call {x : NT} {f : Rs → Pg} (m : Nat) (hx : ∀ k a, csz x k a ≤ m) (h : ∀ v d, vsz x v ≤ m + d → SzA R (f v) (c + d)) : SzA R (.call x f) c := fun k a v d k' a' hv => h v d (Nat.le_trans hv (Nat.add_le_add_right (hx k a) d)) k' a'
theorem SzA.lst {x : NT} (m : Nat) (hx : ∀ k a, csz x k a ≤ m) (h : ∀ v d, vsz x v ≤ m + d → R v ≤ c + d) : SzA R (Pg.lst x) c := SzA.call m hx fun v d hv => SzA.ret (h v d hv)
theorem SzA.ite {P : Prop} [Decidable P] (hp : SzA R p c) (hq : SzA R q c) : SzA R (if P then p else q) c := by split <;> assumption
theorem SzA.ifW {ws : List (List UInt8)} (hp : SzA R p c) (hq : SzA R q c) : SzA R (Pg.ifW ws p q) c := fun k a b => SzA.ite hp hq k a
theorem SzA.ifK {j : Nat} (hp : SzA R p c) (hq : SzA R q c) : SzA R (Pg.ifK j p q) c := fun k a b => SzA.ite hp hq k a
theorem SzA.ac {ws : List (List UInt8)} (hp : SzA R p (c + 16)) (hq : SzA R q c) : SzA R (Pg.ifW ws (.read p) q) c := SzA.ifW (SzA.rea hp) hq
theorem SzA.ac0 {ws : List (List UInt8)} (hp : SzA R p c) (hq : SzA R q c) : SzA R (Pg.ifW ws (.read p) q) c := SzA.ifW (SzA.rea0 hp) hq
theorem SzA.mrk {g : Nat → Pg} (h : ∀ f, SzA R (g f) c) : SzA R (Pg.mrk g) c := fun k a b => h k k a
theorem SzA.xp {x : List UInt8} (h : SzA R p c) : SzA R (Pg.xp x p) c := SzA.ac0 h (SzA.rep h)
theorem SzA.rd {g : List UInt8 → Pg} (h : ∀ x, SzA R (g x) (c + 16)) : SzA R (Pg.rd g) c := fun k a b => SzA.rea (h _) k a
theorem SzA.nm {g : List UInt8 → Pg} (h : ∀ x, SzA R (g x) c) : SzA R (Pg.nm g) c := SzA.ifK (SzA.rd fun x => (h x).up (by omega)) (SzA.rep (h []))
theorem SzA.num {g : List UInt8 → Pg} (h : ∀ x, SzA R (g x) c) : SzA R (Pg.num g) c := SzA.ifK (SzA.rd fun x => (h _).up (by omega)) (SzA.rep (h []))
theorem SzA.bd {kd : Nat} {tx : List UInt8} {f : Nat} {b : Bool} {ks : List AT} {g : AT → Pg} (h : ∀ x : AT, x.size = 1 + sizes ks → SzA R (g x) c) : SzA R (Pg.bd kd tx f b ks g) c := fun k a _ => h (.mk kd tx f k b ks) rfl k a
theorem SzA.leaf {kd : Nat} {tx : List UInt8} {f : Nat} {b : Bool} {g : AT → Pg} (h : ∀ x : AT, x.size = 1 → SzA R (g x) c) : SzA R (Pg.bd kd tx f b [] g) c := SzA.bd fun x e => h x (by rw [e]; rfl)
theorem SzA.nop {g : AT → Pg} (h : ∀ x : AT, x.size = 1 → SzA R (g x) c) : SzA R (Pg.nop g) c := SzA.mrk fun _ => SzA.leaf h
theorem SzA.miss {g : AT → Pg} (h : ∀ x : AT, x.size = 1 → SzA R (g x) c) : SzA R (Pg.miss g) c := SzA.mrk fun _ => SzA.leaf h
theorem SzA.ex {L : Nat} {g : AT → Pg} (h : ∀ (x : AT) d, x.size ≤ 1 + d → SzA R (g x) (c + d)) : SzA R (Pg.cl (.ex L) g) c := fun k a v d k' a' hv => h v.1 d hv k' a'
theorem SzA.blk {g : AT → Pg} (h : ∀ (x : AT) d, x.size ≤ 1 + d → SzA R (g x) (c + d)) : SzA R (Pg.cl .bk g) c := fun k a v d k' a' hv => h v.1 d hv k' a'
theorem SzA.written {g : AT → Pg} (h : ∀ x : AT, x.size = 1 → SzA R (g x) c) : SzA R (written g) c :=
  SzA.ac0 (SzA.mrk fun f => SzA.ac0 (SzA.ac0 (SzA.num fun n => SzA.xp (SzA.leaf h)) (SzA.leaf h)) (SzA.ac0 (SzA.leaf h) (SzA.ifK (SzA.rd fun x => (SzA.leaf h).up (by omega)) (SzA.rep (SzA.miss h))))) (SzA.nop h)
theorem SzA.field {g : AT → Pg} (h : ∀ x : AT, x.size ≤ 2 → SzA R (g x) c) : SzA R (AwF g) c := SzA.mrk fun f => SzA.nm fun x => SzA.xp (SzA.ifW (SzA.mrk fun f2 => SzA.rd fun t => (SzA.leaf fun y hy => SzA.bd fun z hz => h z (by rw [hz, AqV]; omega)).up (by omega))
  (SzA.rep (SzA.miss fun y hy => SzA.bd fun z hz => h z (by rw [hz, AqV]; omega))))
theorem SzA.param {g : AT → Pg} (h : ∀ x : AT, x.size ≤ 2 → SzA R (g x) c) : SzA R (Aw3 g) c := SzA.mrk fun f => SzA.ac0 (SzA.nm fun x => SzA.written fun t ht => SzA.bd fun z hz => h z (by rw [hz, AqV]; omega)) (SzA.nm fun x => SzA.written fun t ht => SzA.bd fun z hz => h z (by rw [hz, AqV]; omega))
theorem SzA.elem {e : El} {g : AT → Pg} (h : ∀ (x : AT) d, x.size ≤ 2 + d → SzA R (g x) (c + d)) : SzA R (elemP e g) c := by
  cases e with
  | fd => exact SzA.field fun x hx => h x 0 (by omega)
  | pa => exact SzA.param fun x hx => h x 0 (by omega)
  | ex => exact SzA.ex fun x d hx => h x d (by omega)
theorem SzA.tl {e : El} {acc : List AT} {f : Rs → Pg} (h : ∀ v d, sizes v.2 ≤ sizes acc + d → SzA R (f v) (c + d)) : SzA R (.call (.tl e acc) f) c := fun k a v d k' a' hv => h v d hv k' a'
theorem SzA.list {e : El} {g : List AT → Pg} (h : ∀ l d, sizes l ≤ 2 + d → SzA R (g l) (c + d)) : SzA R (listP e g) c := SzA.elem fun x d hx => SzA.tl fun v d' hv => by
  rw [AqV] at hv;have := h v.2 (d + d') (by omega)
  rwa [← Nat.add_assoc] at this
theorem SzA.record {g : AT → Pg} (h : ∀ (x : AT) d, x.size ≤ d → SzA R (g x) (c + d)) : SzA R (AkC g) c := SzA.mrk fun f => SzA.rea (SzA.nm fun x => SzA.xp (SzA.list fun l d hl => SzA.xp (SzA.bd fun z hz => by
  have := h z (16 + d) (by omega)
  rwa [← Nat.add_assoc] at this)))
theorem SzA.params {g : AT → Pg} (h : ∀ (x : AT) d, x.size ≤ 3 + d → SzA R (g x) (c + d)) : SzA R (AvO g) c := SzA.mrk fun f => SzA.xp (SzA.ifW (SzA.xp (SzA.leaf fun x hx => h x 0 (by omega))) (SzA.list fun l d hl => SzA.xp (SzA.bd fun z hz => h z d (by omega))))
theorem SzA.proc {g : AT → Pg} (h : ∀ (x : AT) d, x.size ≤ d → SzA R (g x) (c + d)) : SzA R (procP g) c := SzA.mrk fun f => SzA.rea (SzA.nm fun x => SzA.params fun a d ha => SzA.written fun t ht => SzA.blk fun b d' hb => SzA.bd fun z hz => by
  rw [AzE] at hz;have := h z (16 + d + d') (by omega)
  rwa [show c + (16 + d + d') = c + 16 + d + d' by omega] at this)
theorem SzA.args {g : List AT → Pg} (h : ∀ l d, sizes l ≤ d → SzA R (g l) (c + d)) : SzA R (argsP g) c := SzA.rea (SzA.ifW (SzA.xp ((h [] 0 (by simp [sizes])).up (by omega))) (SzA.list fun l d hl => SzA.xp (by
  have := h l (16 + d) (by omega)
  rwa [← Nat.add_assoc] at this)))
theorem SzA.variable {g : AT → Pg} (h : ∀ x : AT, x.size = 1 → SzA R (g x) c) : SzA R (AxU g) c := SzA.mrk fun f => SzA.nm fun x => SzA.leaf h
theorem SzA.place {g : AT → Pg} (h : ∀ (x : AT) d, x.size ≤ 1 + d → SzA R (g x) (c + d)) : SzA R (Ak0 g) c := SzA.mrk fun f => SzA.variable fun v hv => SzA.ac (SzA.ex fun y d hy => SzA.xp (SzA.bd fun z hz => by
    rw [AzD] at hz;have := h z (16 + d) (by omega)
    rwa [← Nat.add_assoc] at this)) (SzA.ac (SzA.nm fun x => SzA.bd fun z hz => by
    rw [AqV] at hz;exact h z 16 (by omega)) (h v 0 (by omega)))
theorem SzA.nod {kd : Nat} {tx : List UInt8} {f : Nat} {ks : List AT} (h : ∀ x : AT, x.size = 1 + sizes ks → R (x, []) ≤ c) : SzA R (Pg.nod kd tx f ks) c := SzA.bd fun x hx => SzA.ret (h x hx)
end
theorem sz_lv4 : SzA (vsz (.ex 3)) lv4P 1 := SzA.mrk fun f => SzA.ex fun x d hx => SzA.ifW (SzA.rd fun o => SzA.ex fun y d' hy => SzA.nod fun z hz => by
  rw [AzD] at hz; show z.size ≤ _; omega) (SzA.ret (by show x.size ≤ _; omega))
theorem sz_prim : SzA (vsz (.ex 7)) primP 1 := SzA.mrk fun f => SzA.ifK (SzA.rd fun x => SzA.nod fun z hz => by show z.size ≤ _; simp [sizes] at hz; omega) (SzA.ifW (SzA.rd fun x => SzA.nod fun z hz => by show z.size ≤ _; simp [sizes] at hz; omega) fun k a b =>
  SzA.ite (SzA.rd fun x => SzA.args fun l d hl => SzA.nod fun z hz => by show z.size ≤ _; omega) (SzA.ite (SzA.place fun x d hx => SzA.ret (by show x.size ≤ _; omega))
    (SzA.ac (SzA.list fun l d hl => SzA.xp (SzA.nod fun z hz => by show z.size ≤ _; omega)) (SzA.ac (SzA.xp (SzA.variable fun v hv => SzA.xp (SzA.nod fun z hz => by show z.size ≤ _; rw [AqV] at hz; omega)))
      (SzA.ac (SzA.ex fun x d hx => SzA.xp (SzA.ret (by show x.size ≤ _; omega))) (SzA.rep (SzA.miss fun x hx => SzA.ret (by show x.size ≤ _; omega))))))) k a)
theorem Sz.place0 {R : Rs → Nat} {k : Nat} {a : Wd} {c : Nat} {g : AT → Pg} (h0 : a.1 = 0) (h : ∀ (x : AT) d, x.size ≤ 1 + d → SzA R (g x) (c + 16 + d)) : Sz R (Ak0 g) k a c := fun _ _ _ => by
  show Sz R (if a.1 = 0 then Pg.rd _ else _) k a c
  rw [if_pos h0]
  exact (SzA.rd fun x => SzA.leaf fun v hv => SzA.ac (SzA.ex fun y d hy => SzA.xp (SzA.bd fun z hz => by
    rw [AzD] at hz;have := h z (16 + d) (by omega)
    rwa [← Nat.add_assoc] at this)) (SzA.ac (SzA.nm fun x => SzA.bd fun z hz => by
    rw [AqV] at hz;exact h z 16 (by omega)) (h v 0 (by omega)))) k a
theorem Sz.simple {k : Nat} {a : Wd} (h0 : a.1 = 0) : Sz (vsz .st) BzH k a 0 := fun _ b => by
  show Sz _ (if b.2 = [40] then _ else _) k a 0
  split
  · exact (SzA.rd fun x => SzA.args fun l d hl => SzA.xp (SzA.nod fun z hz => by show z.size ≤ _; omega)) k a
  · exact Sz.place0 h0 fun x d hx => SzA.xp (SzA.ex fun y d' hy => SzA.xp (SzA.nod fun z hz => by rw [AzD] at hz; show z.size ≤ _; omega))
theorem sz_st (k : Nat) (a : Wd) : Sz (vsz .st) (prog .st) k a (csz .st k a) := by
  have up : ∀ {p}, SzA (vsz .st) p 0 → Sz (vsz .st) p k a (csz .st k a) := fun h => h.up (Nat.zero_le _) k a
  intro b;dsimp only;split
  · exact up (SzA.mrk fun f => SzA.rea (SzA.nm fun x => SzA.written fun t ht => SzA.xp (SzA.ex fun v d hv => SzA.xp (SzA.nod fun z hz => by rw [AzD] at hz; show z.size ≤ _; omega))))
  intro b;dsimp only;split
  · exact fun v d k' a' hv => Nat.le_trans (show v.1.size ≤ 0 + d from hv) (by omega)
  intro b;dsimp only;split
  · exact up (SzA.mrk fun f => SzA.rea (SzA.ex fun c d hc => SzA.blk fun b d' hb => SzA.nod fun z hz => by rw [AzD] at hz; show z.size ≤ _; omega))
  intro b;dsimp only;split
  · exact up (SzA.mrk fun f => SzA.rea (SzA.nm fun x => SzA.xp (SzA.ex fun u d hu => SzA.xp (SzA.ex fun c d' hc => SzA.blk fun b d2 hb => SzA.nod fun z hz => by rw [AzE] at hz; show z.size ≤ _; omega))))
  intro b;dsimp only;split
  · exact up (SzA.mrk fun f => SzA.rea fun k a b => SzA.ite (SzA.ex fun x d hx => SzA.xp (SzA.nod fun z hz => by rw [AqV] at hz; show z.size ≤ _; omega)) (SzA.nop fun x hx => SzA.xp (SzA.nod fun z hz => by rw [AqV] at hz; show z.size ≤ _; omega)) k a)
  intro b;dsimp only;split
  · exact up (SzA.mrk fun f => SzA.rea (SzA.ex fun x d hx => SzA.xp (SzA.nod fun z hz => by rw [AqV] at hz; show z.size ≤ _; omega)))
  intro b;dsimp only;split
  · rename_i h0;exact Sz.up _ _ _ _ _ (Sz.simple h0) (Nat.zero_le _)
  · intro _ v d k' a' hv;refine SzA.nod (fun z hz => ?_) k' a'
    have hv : 1 ≤ (if k = k ∧ ¬ stopA a then 0 else 1) + d := hv
    show z.size ≤ (if stopA a then 1 else 0) + d
    simp [sizes] at hz;by_cases hs : stopA a
    · rw [if_pos hs]; omega
    · rw [if_pos ⟨rfl, hs⟩] at hv; omega
theorem sz_all : ∀ (x : NT) (k : Nat) (a : Wd), Sz (vsz x) (prog x) k a (csz x k a)
  | .ex L, k, a => by
    by_cases h3 : L = 3
    · subst h3; exact SzA.mrk (fun f => SzA.ac (SzA.ex fun x d hx => SzA.nod fun z hz => by rw [AqV] at hz; show z.size ≤ _; omega) sz_lv4) k a
    · by_cases h7 : L = 7
      · subst h7; exact SzA.mrk (fun f => SzA.ac (SzA.ex fun x d hx => SzA.nod fun z hz => by rw [AqV] at hz; show z.size ≤ _; omega) sz_prim) k a
      · rw [prog]
        · exact SzA.mrk (fun f => SzA.ex fun x d hx => SzA.lst x.size (fun _ _ => Nat.le_refl _) fun v d' hv => by
            have hv : v.1.size ≤ x.size + d' := hv;show v.1.size ≤ 1 + d + d'; omega) k a
        · exact fun h => h3 h
        · exact fun h => h7 h
  | .lp L f x, k, a => (SzA.ifW (SzA.rd fun o => SzA.ex fun y d hy => SzA.bd fun z hz => SzA.lst z.size (fun _ _ => Nat.le_refl _) fun v d' hv => by
      have hv : v.1.size ≤ z.size + d' := hv;rw [AzD] at hz;show v.1.size ≤ x.size + 16 + d + d'; omega) (SzA.ret (Nat.le_refl _))) k a
  | .tl e acc, k, a => (SzA.ac (SzA.elem fun x d hx => SzA.lst (sizes (acc ++ [x])) (fun _ _ => Nat.le_refl _) fun v d' hv => by
      have hv : sizes v.2 ≤ sizes (acc ++ [x]) + d' := hv;rw [AjT] at hv;show sizes v.2 ≤ sizes acc + 16 + d + d'; omega) (SzA.ret (Nat.le_refl _))) k a
  | .bk, k, a => by
    show Sz (vsz .bk) (prog .bk) k a 1
    exact (SzA.mrk fun f => SzA.ac (SzA.call (x := .sts []) 0 (fun _ _ => Nat.le_refl _) fun v d hv => SzA.xp (SzA.nod fun z hz => by
      have hv : sizes v.2 ≤ 0 + d := hv;show z.size ≤ _; omega)) (SzA.rep (SzA.leaf fun x hx => SzA.ret (by show x.size ≤ 1; omega)))) k a
  | .sts acc, k, a => by
    intro b;dsimp only;split
    · exact Nat.le_refl _
    · rename_i h1;intro b;dsimp only;split
      · exact Nat.le_refl _
      · rename_i h2;intro v d k' a' hv v' d' k2 a2 hv';have hs : ¬ stopA a := fun h => h.elim h1 h2
        have hv : v.1.size ≤ (if stopA a then 1 else 0) + d := hv
        rw [if_neg hs] at hv;have hv' : sizes v'.2 ≤ sizes (acc ++ [v.1]) + d' := hv';rw [AjT] at hv';show sizes v'.2 ≤ sizes acc + d + d'; omega
  | .st, k, a => sz_st k a
  | .br, k, a => (SzA.mrk fun f => SzA.rea (SzA.ex fun c d hc => SzA.blk fun b d' hb => SzA.ac (SzA.ifW (SzA.call (x := .br) 0 (fun _ _ => Nat.le_refl _) fun v d2 hv => SzA.nod fun z hz => by
      have hv : v.1.size ≤ 0 + d2 := hv;rw [AzE] at hz; show z.size ≤ _; omega) (SzA.blk fun o d2 ho => SzA.nod fun z hz => by rw [AzE] at hz; show z.size ≤ _; omega)) (SzA.nop fun o ho => SzA.nod fun z hz => by rw [AzE] at hz; show z.size ≤ _; omega))) k a
  | .sk f, k, a => by
    intro b;dsimp only;split
    · rename_i h5;show 1 ≤ csz (.sk f) k a;have : csz (.sk f) k a = 1 := if_neg fun h => h.2 (.inr h5)
      omega
    · rename_i h5;intro b;dsimp only;split
      · rename_i hk;intro b;dsimp only;split
        · rename_i hs;have : csz (.sk f) k a = 1 := if_neg fun h => h.2 (.inl hs)
          show 1 ≤ csz (.sk f) k a;omega
        · exact (SzA.rd fun x => SzA.ite (SzA.ret (by show 1 ≤ _; omega)) (SzA.lst 1 (fun k a => by show (if _ then 0 else 1) ≤ 1; split <;> omega) fun v d hv => by show 1 ≤ _; omega)) k a
      · rename_i hk;have : csz (.sk f) k a = 1 := if_neg fun h => hk h.1
        rw [this];exact (SzA.ifW (SzA.ret (Nat.le_refl _)) (SzA.rd fun x => SzA.ite (SzA.ret (by show 1 ≤ _; omega)) (SzA.lst 1 (fun k a => by show (if _ then 0 else 1) ≤ 1; split <;> omega) fun v d hv => by show 1 ≤ _; omega))) k a
  | .sp, k, a => (SzA.ifK (SzA.ret (Nat.le_refl _)) (SzA.ifW (SzA.ret (Nat.le_refl _)) (SzA.rea (SzA.lst 0 (fun _ _ => Nat.le_refl _) fun v d hv => Nat.zero_le _)))) k a
  | .pg acc, k, a => by
    have go : ∀ (x : AT) d, x.size ≤ d → SzA (vsz (.pg acc)) (Pg.lst (.pg (acc ++ [x]))) (sizes acc + d) := fun x d hx => SzA.lst (sizes (acc ++ [x])) (fun _ _ => Nat.le_refl _) fun v d' hv => by
      have hv : sizes v.2 ≤ sizes (acc ++ [x]) + d' := hv;rw [AjT] at hv;show sizes v.2 ≤ sizes acc + d + d'; omega
    exact (SzA.ifK (SzA.ret (Nat.le_refl _)) (SzA.ifW (SzA.record go) (SzA.ifW (SzA.proc go) (SzA.rep (SzA.mrk fun f => SzA.rea (SzA.call (x := .sp) 0 (fun _ _ => Nat.le_refl _) fun v d hv => SzA.leaf fun x hx => by
      have := go x (16 + d) (by omega)
      rwa [← Nat.add_assoc] at this)))))) k a
theorem szN {w : Nat → Wd} : ∀ n x k D v k1 D1, runN w n x k D = some (v, k1, D1) → vsz x v ≤ csz x k (w k) + 16 * (k1 - k)
  | 0, _, _, _, _, _, _, h => by cases h
  | n + 1, x, k, D, v, k1, D1, h => szP (runN_dm n) (szN n) (prog x) k D v k1 D1 _ h (sz_all x k (w k))
end Go.Abs.Z
