/- A part of the proof: D27 D28 D29 D30 D32. -/
import Derived.Test.YtfahhgdeociahaaGreatDoorDa
import Derived.Test.YtfahhgdeociahaaGreatDoorDh
import Derived.Test.YtfahhgdeociahaaGreatDoorDf

set_option linter.unusedVariables false
set_option linter.unusedSimpArgs false
namespace Go.Abs.Z
set_option linter.unusedVariables false
open Pg
theorem rp_ne (D : List AD) (c k : Nat) (t : List UInt8) : rp D c k t ≠ [] := by
  unfold rp;split
  · rename_i h;intro e; subst e; simp at h
  · simp
def DM (c : NT → Nat → List AD → Ans3) : Prop := ∀ x k D v k1 D1, c x k D = some (v, k1, D1) → k ≤ k1 ∧ (D ≠ [] → D1 ≠ [])
section
variable {w w' : Nat → Wd} {m : Nat} {c c' : NT → Nat → List AD → Ans3}
theorem runP_dm (hc : DM c) : ∀ (p : Pg) k D v k1 D1, runP w c p k D = some (v, k1, D1) → k ≤ k1 ∧ (D ≠ [] → D1 ≠ []) := by
  intro p
  induction p with
  | ret v => intro k D v k1 D1 h; cases h; exact ⟨Nat.le_refl _, id⟩
  | look f ih => intro k D v k1 D1 h; exact ih _ _ _ k D v k1 D1 h
  | read p ih =>
    intro k D v k1 D1 h;simp only [runP] at h
    split at h
    · cases h
    · obtain ⟨h1, h2⟩ := ih _ _ _ _ _ h;exact ⟨by omega, h2⟩
  | report e t p ih =>
    intro k D v k1 D1 h;obtain ⟨h1, h2⟩ := ih _ _ _ _ _ h;exact ⟨h1, fun _ => h2 (rp_ne _ _ _ _)⟩
  | call x f ih =>
    intro k D v k1 D1 h;simp only [runP] at h;obtain ⟨⟨u, k2, D2⟩, h1, h2⟩ := Option.bind_eq_some_iff.1 h;obtain ⟨a1, a2⟩ := hc _ _ _ _ _ _ h1;obtain ⟨b1, b2⟩ := ih _ _ _ _ _ _ h2;have b1 : k2 ≤ k1 := b1;exact ⟨by omega, fun hD => b2 (a2 hD)⟩
theorem DM.nil (hc : DM c) {x : NT} {k k1 : Nat} {D : List AD} {v : Rs} (h : c x k D = some (v, k1, [])) : D = [] := by
  rcases D with _ | ⟨d, D⟩
  · rfl
  · exact absurd rfl ((hc _ _ _ _ _ _ h).2 (by simp))
def Rd1 (a : Wd) (p : Pg) : Prop := ∀ (w : Nat → Wd) (c : NT → Nat → List AD → Ans3) k D v k1 D1, DM c → w k = a → runP w c p k D = some (v, k1, D1) → k < k1
def LkA : Pg → Wd → Prop
  | .ret _, _ => True
  | .look f, a => (∀ b k, LkA (f a b k) a) ∧ ∀ b b' k, f a b k = f a b' k ∨ Rd1 a (f a b k)
  | .read p, _ => ∀ a, LkA p a
  | .report _ _ p, a => LkA p a
  | .call _ f, _ => ∀ v a, LkA (f v) a
def Lk (p : Pg) : Prop := ∀ a, LkA p a
def Rs1 : Pg → Prop
  | .ret _ => False
  | .look f => ∀ a b k, Rs1 (f a b k)
  | .read _ => True
  | .report _ _ _ => True
  | .call x f => x = .bk ∨ ∀ v, Rs1 (f v)
def TC (b : Bool) : Pg → Prop
  | .ret _ => b = true
  | .look f => (∀ a b b' k, f a b k = f a b' k) ∧ ((∀ a a' b k, f a b k = f a' b k) ∨ ∀ a b k, Rs1 (f a b k)) ∧ ∀ a c k, TC b (f a c k)
  | .read p => TC b p
  | .report _ _ _ => True
  | .call x f => (b = false ∧ (∃ a, x = .pg a) ∧ f = .ret) ∨ ((x = .bk ∨ ∀ v, Rs1 (f v)) ∧ ∀ v, TC b (f v))
end
section
variable {p q : Pg}
theorem Lk.ifW {ws : List (List UInt8)} (hp : Lk p) (hq : Lk q) : Lk (Pg.ifW ws p q) := fun a => ⟨fun b k => by dsimp only; split <;> first | exact hp a | exact hq a, fun _ _ _ => .inl rfl⟩
theorem Lk.ifK {j : Nat} (hp : Lk p) (hq : Lk q) : Lk (Pg.ifK j p q) := fun a => ⟨fun b k => by dsimp only; split <;> first | exact hp a | exact hq a, fun _ _ _ => .inl rfl⟩
theorem Lk.mrk {g : Nat → Pg} (h : ∀ k, Lk (g k)) : Lk (Pg.mrk g) := fun a => ⟨fun b k => h k a, fun _ _ _ => .inl rfl⟩
theorem Lk.rea (h : Lk p) : Lk (.read p) := fun _ => h
theorem Lk.rep {e : Nat} {t : List UInt8} (h : Lk p) : Lk (.report e t p) := h
theorem Lk.ret {v : Rs} : Lk (.ret v) := fun _ => trivial
theorem Lk.call {x : NT} {f : Rs → Pg} (h : ∀ v, Lk (f v)) : Lk (.call x f) := fun _ => h
theorem Lk.ac {ws : List (List UInt8)} (hp : Lk p) (hq : Lk q) : Lk (Pg.ifW ws (.read p) q) := Lk.ifW (Lk.rea hp) hq
theorem Lk.xp {x : List UInt8} (h : Lk p) : Lk (Pg.xp x p) := Lk.ac h (Lk.rep h)
theorem Lk.rd {g : List UInt8 → Pg} (h : ∀ x, Lk (g x)) : Lk (Pg.rd g) := fun a => ⟨fun b k => h a.2, fun _ _ _ => .inl rfl⟩
theorem Lk.nm {g : List UInt8 → Pg} (h : ∀ x, Lk (g x)) : Lk (Pg.nm g) := Lk.ifK (Lk.rd h) (Lk.rep (h []))
theorem Lk.num {g : List UInt8 → Pg} (h : ∀ x, Lk (g x)) : Lk (Pg.num g) := Lk.ifK (Lk.rd fun x => h _) (Lk.rep (h []))
theorem Lk.bd {kd : Nat} {tx : List UInt8} {f : Nat} {b : Bool} {ks : List AT} {g : AT → Pg} (h : ∀ x, Lk (g x)) : Lk (Pg.bd kd tx f b ks g) := fun a => ⟨fun b k => h _ a, fun _ _ _ => .inl rfl⟩
theorem Lk.nod {kd : Nat} {tx : List UInt8} {f : Nat} {ks : List AT} : Lk (Pg.nod kd tx f ks) := Lk.bd fun _ => Lk.ret
theorem Lk.cl {x : NT} {g : AT → Pg} (h : ∀ x, Lk (g x)) : Lk (Pg.cl x g) := Lk.call fun v => h _
theorem Lk.lst {x : NT} : Lk (Pg.lst x) := Lk.call fun v => Lk.ret
theorem Lk.nop {g : AT → Pg} (h : ∀ x, Lk (g x)) : Lk (Pg.nop g) := Lk.mrk fun _ => Lk.bd h
theorem Lk.miss {g : AT → Pg} (h : ∀ x, Lk (g x)) : Lk (Pg.miss g) := Lk.mrk fun _ => Lk.bd h
theorem Lk.written {g : AT → Pg} (h : ∀ x, Lk (g x)) : Lk (written g) :=
  Lk.ac (Lk.mrk fun f => Lk.ac (Lk.ac (Lk.num fun n => Lk.xp (Lk.bd h)) (Lk.bd h)) (Lk.ac (Lk.bd h) (Lk.ifK (Lk.rd fun x => Lk.bd h) (Lk.miss h)))) (Lk.nop h)
theorem Lk.field {g : AT → Pg} (h : ∀ x, Lk (g x)) : Lk (AvZ g) := Lk.mrk fun f => Lk.nm fun x => Lk.xp (Lk.ifW (Lk.mrk fun f2 => Lk.rd fun t => Lk.bd fun y => Lk.bd h) (Lk.miss fun y => Lk.bd h))
theorem Lk.param {g : AT → Pg} (h : ∀ x, Lk (g x)) : Lk (AvN g) := Lk.mrk fun f => Lk.ac (Lk.nm fun x => Lk.written fun t => Lk.bd h) (Lk.nm fun x => Lk.written fun t => Lk.bd h)
theorem Lk.elem {e : El} {g : AT → Pg} (h : ∀ x, Lk (g x)) : Lk (elemP e g) := by
  cases e with
  | fd => exact Lk.field h
  | pa => exact Lk.param h
  | ex => exact Lk.cl h
theorem Lk.list {e : El} {g : List AT → Pg} (h : ∀ x, Lk (g x)) : Lk (listP e g) := Lk.elem fun x => Lk.call fun v => h _
theorem Lk.record {g : AT → Pg} (h : ∀ x, Lk (g x)) : Lk (AwX g) := Lk.mrk fun f => Lk.rea (Lk.nm fun x => Lk.xp (Lk.list fun l => Lk.xp (Lk.bd h)))
theorem Lk.params {g : AT → Pg} (h : ∀ x, Lk (g x)) : Lk (AvB g) := Lk.mrk fun f => Lk.xp (Lk.ifW (Lk.xp (Lk.bd h)) (Lk.list fun l => Lk.xp (Lk.bd h)))
theorem Lk.proc {g : AT → Pg} (h : ∀ x, Lk (g x)) : Lk (procP g) := Lk.mrk fun f => Lk.rea (Lk.nm fun x => Lk.params fun a => Lk.written fun t => Lk.cl fun b => Lk.bd h)
theorem Lk.args {g : List AT → Pg} (h : ∀ x, Lk (g x)) : Lk (argsP g) := Lk.rea (Lk.ifW (Lk.xp (h [])) (Lk.list fun l => Lk.xp (h l)))
theorem Lk.variable {g : AT → Pg} (h : ∀ x, Lk (g x)) : Lk (AxT g) := Lk.mrk fun f => Lk.nm fun x => Lk.bd h
theorem Lk.place {g : AT → Pg} (h : ∀ x, Lk (g x)) : Lk (Bq1 g) := Lk.mrk fun f => Lk.variable fun v => Lk.ac (Lk.cl fun y => Lk.xp (Lk.bd h)) (Lk.ac (Lk.nm fun x => Lk.bd h) (h v))
theorem Lk.lv4 : Lk lv4P := Lk.mrk fun f => Lk.cl fun x => Lk.ifW (Lk.rd fun o => Lk.cl fun y => Lk.nod) Lk.ret
theorem rd1_rd {a : Wd} {g : List UInt8 → Pg} : Rd1 a (Pg.rd g) := fun w c k D v k1 D1 hm _ h => by
  have h' : (if (w k).1 = 5 then none else runP w c (g (w k).2) (k + 1) D) = some (v, k1, D1) := h
  split at h'
  · cases h'
  · have := (runP_dm hm _ _ _ _ _ _ h').1; omega
theorem AwY {a : Wd} (h0 : a.1 = 0) {g : AT → Pg} : Rd1 a (Bq1 g) := fun w c k D v k1 D1 hm ha h => by
  subst ha;have h' : runP w c (if (w k).1 = 0 then Pg.rd _ else _) k D = some (v, k1, D1) := h
  rw [if_pos h0] at h';exact rd1_rd w c k D v k1 D1 hm rfl h'
theorem Lk.ite {c : Prop} [Decidable c] (hp : Lk p) (hq : Lk q) : Lk (if c then p else q) := by split <;> assumption
theorem Lk.prim : Lk primP := Lk.mrk fun f => Lk.ifK (Lk.rd fun x => Lk.nod) (Lk.ifW (Lk.rd fun x => Lk.nod) fun a => ⟨fun b k => Lk.ite (Lk.rd fun x => Lk.args fun l => Lk.nod)
    (Lk.ite (Lk.place fun x => Lk.ret) (Lk.ac (Lk.list fun l => Lk.xp Lk.nod) (Lk.ac (Lk.xp (Lk.variable fun v => Lk.xp Lk.nod)) (Lk.ac (Lk.cl fun x => Lk.xp Lk.ret) (Lk.rep (Lk.miss fun x => Lk.ret)))))) a,
  fun b b' k => by
    by_cases h0 : a.1 = 0
    · refine .inr ?_
      dsimp only;split
      · exact rd1_rd
      · first | exact AwY h0 | (rw [if_pos h0]; exact AwY h0)
    · exact .inl (by simp only [h0, false_and, if_false])⟩)
theorem LkA.simple {a : Wd} (h0 : a.1 = 0) : LkA simpleP a := ⟨fun _ k => ⟨fun b k => Lk.ite (Lk.rd fun x => Lk.args fun l => Lk.xp Lk.nod) (Lk.place fun x => Lk.xp (Lk.cl fun y => Lk.xp Lk.nod)) a, fun b b' k => .inr (by
    dsimp only;split
    · exact rd1_rd
    · exact AwY h0)⟩, fun _ _ _ => .inl rfl⟩
theorem Lk.stm : Lk (prog .st) :=
  Lk.ifW (Lk.mrk fun f => Lk.rea (Lk.nm fun x => Lk.written fun t => Lk.xp (Lk.cl fun v => Lk.xp Lk.nod))) (Lk.ifW Lk.lst (Lk.ifW (Lk.mrk fun f => Lk.rea (Lk.cl fun c => Lk.cl fun b => Lk.nod))
    (Lk.ifW (Lk.mrk fun f => Lk.rea (Lk.nm fun x => Lk.xp (Lk.cl fun a => Lk.xp (Lk.cl fun c => Lk.cl fun b => Lk.nod))))
    (Lk.ifW (Lk.mrk fun f => Lk.rea fun a => ⟨fun b k => Lk.ite (Lk.cl fun x => Lk.xp Lk.nod) (Lk.nop fun x => Lk.xp Lk.nod) a, fun _ _ _ => .inl rfl⟩)
    (Lk.ifW (Lk.mrk fun f => Lk.rea (Lk.cl fun x => Lk.xp Lk.nod))
    (fun a => ⟨fun b k => by
      dsimp only;split
      · rename_i h0; exact LkA.simple h0
      · exact Lk.rep (Lk.mrk fun f => Lk.call fun v => Lk.nod) a, fun _ _ _ => .inl rfl⟩))))))
theorem Lk.all : ∀ x : NT, Lk (prog x)
  | .ex L => by
    by_cases h3 : L = 3
    · subst h3; exact Lk.mrk fun f => Lk.ac (Lk.cl fun x => Lk.nod) Lk.lv4
    · by_cases h7 : L = 7
      · subst h7; exact Lk.mrk fun f => Lk.ac (Lk.cl fun x => Lk.nod) Lk.prim
      · rw [prog]
        · exact Lk.mrk fun f => Lk.cl fun x => Lk.lst
        · exact fun h => h3 h
        · exact fun h => h7 h
  | .lp L f x => Lk.ifW (Lk.rd fun o => Lk.cl fun y => Lk.bd fun z => Lk.lst) Lk.ret
  | .tl e acc => Lk.ac (Lk.elem fun x => Lk.lst) Lk.ret
  | .bk => Lk.mrk fun f => Lk.ac (Lk.call fun r => Lk.xp Lk.nod) (Lk.rep (Lk.bd fun x => Lk.ret))
  | .sts acc => Lk.ifW Lk.ret (Lk.ifK Lk.ret (Lk.cl fun x => Lk.lst))
  | .st => Lk.stm
  | .br => Lk.mrk fun f => Lk.rea (Lk.cl fun c => Lk.cl fun b => Lk.ac (Lk.ifW (Lk.cl fun o => Lk.nod) (Lk.cl fun o => Lk.nod)) (Lk.nop fun o => Lk.nod))
  | .sk f => Lk.ifK Lk.ret (Lk.mrk fun k => Lk.ite (Lk.ifW Lk.ret (Lk.rd fun x => Lk.ite Lk.ret Lk.lst)) (Lk.ifW Lk.ret (Lk.rd fun x => Lk.ite Lk.ret Lk.lst)))
  | .sp => Lk.ifK Lk.ret (Lk.ifW Lk.ret (Lk.rea Lk.lst))
  | .pg acc => Lk.ifK Lk.ret (Lk.ifW (Lk.record fun x => Lk.lst) (Lk.ifW (Lk.proc fun x => Lk.lst) (Lk.rep (Lk.mrk fun f => Lk.rea (Lk.call fun _ => Lk.bd fun x => Lk.lst)))))
variable {b : Bool}
theorem Rs1.bd {kd : Nat} {tx : List UInt8} {f : Nat} {b : Bool} {ks : List AT} {g : AT → Pg} (h : ∀ x, Rs1 (g x)) : Rs1 (Pg.bd kd tx f b ks g) := fun _ _ _ => h _
theorem Rs1.mrk {g : Nat → Pg} (h : ∀ k, Rs1 (g k)) : Rs1 (Pg.mrk g) := fun _ _ k => h k
theorem Rs1.ifW {ws : List (List UInt8)} (hp : Rs1 p) (hq : Rs1 q) : Rs1 (Pg.ifW ws p q) := fun a _ _ => by dsimp only; split <;> assumption
theorem Rs1.ifK {j : Nat} (hp : Rs1 p) (hq : Rs1 q) : Rs1 (Pg.ifK j p q) := fun a _ _ => by dsimp only; split <;> assumption
theorem Rs1.rd {g : List UInt8 → Pg} : Rs1 (Pg.rd g) := fun _ _ _ => trivial
theorem Rs1.xp {x : List UInt8} : Rs1 (Pg.xp x p) := Rs1.ifW trivial trivial
theorem Rs1.nm {g : List UInt8 → Pg} : Rs1 (Pg.nm g) := Rs1.ifK Rs1.rd trivial
theorem Rs1.num {g : List UInt8 → Pg} : Rs1 (Pg.num g) := Rs1.ifK Rs1.rd trivial
theorem Rs1.bk {g : AT → Pg} : Rs1 (Pg.cl .bk g) := .inl rfl
theorem Rs1.call {x : NT} {f : Rs → Pg} (h : ∀ v, Rs1 (f v)) : Rs1 (.call x f) := .inr h
theorem Rs1.written {g : AT → Pg} (h : ∀ x, Rs1 (g x)) : Rs1 (written g) := Rs1.ifW trivial (Rs1.mrk fun _ => Rs1.bd h)
theorem Rs1.elem {e : El} {g : AT → Pg} (h : ∀ x, Rs1 (g x)) : Rs1 (elemP e g) := by
  cases e with
  | fd => exact Rs1.mrk fun _ => Rs1.nm
  | pa => exact Rs1.mrk fun _ => Rs1.ifW trivial Rs1.nm
  | ex => exact Rs1.call fun v => h _
theorem Rs1.list {e : El} {g : List AT → Pg} (h : ∀ x, Rs1 (g x)) : Rs1 (listP e g) := Rs1.elem fun x => Rs1.call fun v => h _
theorem TC.look1 {f : Wd → Wd → Nat → Pg} (h1 : ∀ a b b' k, f a b k = f a b' k) (h2 : ∀ a b k, Rs1 (f a b k)) (h3 : ∀ a c k, TC b (f a c k)) : TC b (.look f) := ⟨h1, .inr h2, h3⟩
theorem TC.ifW {ws : List (List UInt8)} (rp : Rs1 p) (rq : Rs1 q) (hp : TC b p) (hq : TC b q) : TC b (Pg.ifW ws p q) := TC.look1 (fun _ _ _ _ => rfl) (Rs1.ifW rp rq) fun a c k => by split <;> assumption
theorem TC.ifK {j : Nat} (rp : Rs1 p) (rq : Rs1 q) (hp : TC b p) (hq : TC b q) : TC b (Pg.ifK j p q) := TC.look1 (fun _ _ _ _ => rfl) (Rs1.ifK rp rq) fun a c k => by split <;> assumption
theorem TC.rea (h : TC b p) : TC b (.read p) := h
theorem TC.ac {ws : List (List UInt8)} (rq : Rs1 q) (hp : TC b p) (hq : TC b q) : TC b (Pg.ifW ws (.read p) q) := TC.ifW trivial rq (TC.rea hp) hq
theorem TC.mrk {g : Nat → Pg} (h : ∀ k, TC b (g k)) : TC b (Pg.mrk g) := ⟨fun _ _ _ _ => rfl, .inl fun _ _ _ _ => rfl, fun _ _ k => h k⟩
theorem TC.bd {kd : Nat} {tx : List UInt8} {f : Nat} {b' : Bool} {ks : List AT} {g : AT → Pg} (h : ∀ x, TC b (g x)) : TC b (Pg.bd kd tx f b' ks g) := ⟨fun _ _ _ _ => rfl, .inl fun _ _ _ _ => rfl, fun _ _ _ => h _⟩
theorem TC.rd {g : List UInt8 → Pg} (h : ∀ x, TC b (g x)) : TC b (Pg.rd g) := TC.look1 (fun _ _ _ _ => rfl) Rs1.rd fun a _ _ => h a.2
theorem TC.xp {x : List UInt8} (h : TC b p) : TC b (Pg.xp x p) := TC.ifW trivial trivial h trivial
theorem TC.nm {g : List UInt8 → Pg} (h : ∀ x, TC b (g x)) : TC b (Pg.nm g) := TC.ifK Rs1.rd trivial (TC.rd h) trivial
theorem TC.num {g : List UInt8 → Pg} (h : ∀ x, TC b (g x)) : TC b (Pg.num g) := TC.ifK Rs1.rd trivial (TC.rd fun x => h _) trivial
theorem TC.nod (kd : Nat) (tx : List UInt8) (f : Nat) (ks : List AT) : TC true (Pg.nod kd tx f ks) := TC.bd fun _ => rfl
theorem TC.bk {g : AT → Pg} (h : ∀ x, TC b (g x)) : TC b (Pg.cl .bk g) := .inr ⟨.inl rfl, fun v => h _⟩
theorem TC.call {x : NT} {f : Rs → Pg} (hr : ∀ v, Rs1 (f v)) (h : ∀ v, TC b (f v)) : TC b (.call x f) := .inr ⟨.inr hr, h⟩
theorem TC.pg {acc : List AT} : TC false (Pg.lst (.pg acc)) := .inl ⟨rfl, ⟨_, rfl⟩, rfl⟩
theorem TC.nop {g : AT → Pg} (h : ∀ x, TC b (g x)) : TC b (Pg.nop g) := TC.mrk fun _ => TC.bd h
theorem TC.miss {g : AT → Pg} (h : ∀ x, TC b (g x)) : TC b (Pg.miss g) := TC.mrk fun _ => TC.bd h
theorem TC.written {g : AT → Pg} (r : ∀ x, Rs1 (g x)) (h : ∀ x, TC b (g x)) : TC b (written g) :=
  TC.ac (Rs1.mrk fun _ => Rs1.bd r) (TC.mrk fun f => TC.ac (Rs1.ifW trivial (Rs1.ifK Rs1.rd trivial)) (TC.ac (Rs1.bd r) (TC.num fun n => TC.xp (TC.bd h)) (TC.bd h))
    (TC.ac (Rs1.ifK Rs1.rd trivial) (TC.bd h) (TC.ifK Rs1.rd trivial (TC.rd fun x => TC.bd h) trivial))) (TC.nop h)
theorem TC.field {g : AT → Pg} (h : ∀ x, TC b (g x)) : TC b (AvZ g) := TC.mrk fun f => TC.nm fun x => TC.xp (TC.ifW (Rs1.mrk fun _ => Rs1.rd) trivial (TC.mrk fun f2 => TC.rd fun t => TC.bd fun y => TC.bd h) trivial)
theorem TC.param {g : AT → Pg} (r : ∀ x, Rs1 (g x)) (h : ∀ x, TC b (g x)) : TC b (AvN g) := TC.mrk fun f => TC.ac Rs1.nm (TC.nm fun x => TC.written (fun t => Rs1.bd r) fun t => TC.bd h) (TC.nm fun x => TC.written (fun t => Rs1.bd r) fun t => TC.bd h)
theorem TC.elem {e : El} {g : AT → Pg} (r : ∀ x, Rs1 (g x)) (h : ∀ x, TC b (g x)) : TC b (elemP e g) := by
  cases e with
  | fd => exact TC.field h
  | pa => exact TC.param r h
  | ex => exact TC.call (fun v => r _) fun v => h _
theorem TC.list {e : El} {g : List AT → Pg} (r : ∀ x, Rs1 (g x)) (h : ∀ x, TC b (g x)) : TC b (listP e g) := TC.elem (fun x => Rs1.call fun v => r _) fun x => TC.call (fun v => r _) fun v => h _
theorem TC.record {acc : AT → List AT} : TC false (AwX fun x => Pg.lst (.pg (acc x))) := TC.mrk fun f => TC.rea <| TC.nm fun x => TC.xp (TC.list (fun l => Rs1.xp) fun l => TC.xp (TC.bd fun x => TC.pg))
theorem TC.proc {acc : AT → List AT} : TC false (procP fun x => Pg.lst (.pg (acc x))) := TC.mrk fun f => TC.rea <| TC.nm fun x => TC.mrk fun f => TC.xp (TC.ifW Rs1.xp (Rs1.list fun l => Rs1.xp)
    (TC.xp (TC.bd fun a => TC.written (fun t => Rs1.bk) fun t => TC.bk fun b => TC.bd fun x => TC.pg)) (TC.list (fun l => Rs1.xp) fun l => TC.xp (TC.bd fun a => TC.written (fun t => Rs1.bk) fun t => TC.bk fun b => TC.bd fun x => TC.pg)))
end
section
variable {w w' : Nat → Wd} {m : Nat}
end
end Go.Abs.Z

namespace Go.Abs.Z
open Pg
section
variable (d : Nat)
mutual
def AT.sh : AT → AT
  | .mk kd tx f k b ks => .mk kd tx (f + d) (k + d) b (shs ks)
def shs : List AT → List AT
  | [] => []
  | x :: xs => x.sh :: shs xs
end
def AD.sh (x : AD) : AD := ⟨x.c, x.i + d, x.t⟩
end
def NT.sh (d : Nat) (pre : List AT) : NT → NT
  | .lp L f x => .lp L (f + d) (x.sh d)
  | .tl e acc => .tl e (shs d acc)
  | .sts acc => .sts (shs d acc)
  | .sk f => .sk (f + d)
  | .pg acc => .pg (pre ++ shs d acc)
  | x => x
def RV (d : Nat) (pre : List AT) : NT → Rs → Rs → Prop
  | .tl _ _, v, v' => v'.2 = shs d v.2
  | .sts _, v, v' => v'.2 = shs d v.2
  | .pg _, v, v' => v'.2 = pre ++ shs d v.2
  | .sk _, _, _ => True
  | .sp, _, _ => True
  | _, v, v' => v'.1 = v.1.sh d
inductive Sh (d : Nat) (pre : List AT) (R : Rs → Rs → Prop) : Pg → Pg → Prop
  | ret {v v' : Rs} : R v v' → Sh d pre R (.ret v) (.ret v')
  | look {f f' : Wd → Wd → Nat → Pg} : (∀ a b k, Sh d pre R (f a b k) (f' a b (k + d))) → Sh d pre R (.look f) (.look f')
  | read {p p' : Pg} : Sh d pre R p p' → Sh d pre R (.read p) (.read p')
  | report {e : Nat} {t : List UInt8} {p p' : Pg} : Sh d pre R p p' → Sh d pre R (.report e t p) (.report e t p')
  | call {x : NT} {f f' : Rs → Pg} : (∀ v v', RV d pre x v v' → Sh d pre R (f v) (f' v')) → Sh d pre R (.call x f) (.call (x.sh d pre) f')
section
variable {d : Nat} {pre : List AT} {R : Rs → Rs → Prop} {w w' : Nat → Wd}
variable {p q p' q' : Pg}
abbrev SG (d : Nat) (pre : List AT) (R : Rs → Rs → Prop) (g g' : AT → Pg) : Prop := ∀ x, Sh d pre R (g x) (g' (x.sh d))
abbrev SL (d : Nat) (pre : List AT) (R : Rs → Rs → Prop) (g g' : List AT → Pg) : Prop := ∀ x, Sh d pre R (g x) (g' (shs d x))
theorem Sh.ite {c : Prop} [Decidable c] (hp : Sh d pre R p p') (hq : Sh d pre R q q') : Sh d pre R (if c then p else q) (if c then p' else q') := by split <;> assumption
theorem Sh.ifW {ws : List (List UInt8)} (hp : Sh d pre R p p') (hq : Sh d pre R q q') : Sh d pre R (Pg.ifW ws p q) (Pg.ifW ws p' q') := .look fun a b k => Sh.ite hp hq
theorem Sh.ifK {j : Nat} (hp : Sh d pre R p p') (hq : Sh d pre R q q') : Sh d pre R (Pg.ifK j p q) (Pg.ifK j p' q') := .look fun a b k => Sh.ite hp hq
theorem Sh.ac {ws : List (List UInt8)} (hp : Sh d pre R p p') (hq : Sh d pre R q q') : Sh d pre R (Pg.ifW ws (.read p) q) (Pg.ifW ws (.read p') q') := Sh.ifW (.read hp) hq
theorem Sh.mrk {g g' : Nat → Pg} (h : ∀ k, Sh d pre R (g k) (g' (k + d))) : Sh d pre R (Pg.mrk g) (Pg.mrk g') := .look fun a b k => h k
theorem Sh.xp {x : List UInt8} (h : Sh d pre R p p') : Sh d pre R (Pg.xp x p) (Pg.xp x p') := Sh.ac h (.report h)
theorem Sh.rd {g g' : List UInt8 → Pg} (h : ∀ x, Sh d pre R (g x) (g' x)) : Sh d pre R (Pg.rd g) (Pg.rd g') := .look fun a b k => .read (h _)
theorem Sh.nm {g g' : List UInt8 → Pg} (h : ∀ x, Sh d pre R (g x) (g' x)) : Sh d pre R (Pg.nm g) (Pg.nm g') := Sh.ifK (Sh.rd h) (.report (h _))
theorem Sh.num {g g' : List UInt8 → Pg} (h : ∀ x, Sh d pre R (g x) (g' x)) : Sh d pre R (Pg.num g) (Pg.num g') := Sh.ifK (Sh.rd fun x => h _) (.report (h _))
theorem Sh.bd {kd : Nat} {tx : List UInt8} {f : Nat} {b : Bool} {ks : List AT} {g g' : AT → Pg} (h : SG d pre R g g') : Sh d pre R (Pg.bd kd tx f b ks g) (Pg.bd kd tx (f + d) b (shs d ks) g') := .look fun a _ k => h (.mk kd tx f k b ks)
theorem Sh.nop {g g' : AT → Pg} (h : SG d pre R g g') : Sh d pre R (Pg.nop g) (Pg.nop g') := Sh.mrk fun f => Sh.bd (ks := []) h
theorem Sh.miss {g g' : AT → Pg} (h : SG d pre R g g') : Sh d pre R (Pg.miss g) (Pg.miss g') := Sh.mrk fun f => Sh.bd (ks := []) h
theorem Sh.ex {L : Nat} {g g' : AT → Pg} (h : SG d pre R g g') : Sh d pre R (Pg.cl (.ex L) g) (Pg.cl (.ex L) g') := Sh.call (x := .ex L) fun v v' e => by
  have e : v'.1 = v.1.sh d := e;show Sh d pre R (g v.1) (g' v'.1);rw [e]; exact h _
theorem Sh.written {g g' : AT → Pg} (h : SG d pre R g g') : Sh d pre R (written g) (written g') :=
  Sh.ac (Sh.mrk fun f => Sh.ac (Sh.ac (Sh.num fun n => Sh.xp (Sh.bd (ks := []) h)) (Sh.bd (ks := []) h)) (Sh.ac (Sh.bd (ks := []) h) (Sh.ifK (Sh.rd fun x => Sh.bd (ks := []) h) (.report (Sh.miss h))))) (Sh.nop h)
theorem Sh.field {g g' : AT → Pg} (h : SG d pre R g g') : Sh d pre R (AvZ g) (AvZ g') := Sh.mrk fun f => Sh.nm fun x => Sh.xp (Sh.ifW (Sh.mrk fun f2 => Sh.rd fun t => Sh.bd (ks := []) fun y => Sh.bd (ks := [y]) h) (.report (Sh.miss fun y => Sh.bd (ks := [y]) h)))
theorem Sh.param {g g' : AT → Pg} (h : SG d pre R g g') : Sh d pre R (AvN g) (AvN g') := Sh.mrk fun f => Sh.ac (Sh.nm fun x => Sh.written fun t => Sh.bd (ks := [t]) h) (Sh.nm fun x => Sh.written fun t => Sh.bd (ks := [t]) h)
theorem Sh.elem {e : El} {g g' : AT → Pg} (h : SG d pre R g g') : Sh d pre R (elemP e g) (elemP e g') := by
  cases e with
  | fd => exact Sh.field h
  | pa => exact Sh.param h
  | ex => exact Sh.ex h
theorem Sh.list {e : El} {g g' : List AT → Pg} (h : SL d pre R g g') : Sh d pre R (listP e g) (listP e g') := Sh.elem fun x => Sh.call (x := .tl e [x]) fun v v' hv => by
  have hv : v'.2 = shs d v.2 := hv;rw [hv]; exact h _
theorem Sh.params {g g' : AT → Pg} (h : SG d pre R g g') : Sh d pre R (AvB g) (AvB g') := Sh.mrk fun f => Sh.xp (Sh.ifW (Sh.xp (Sh.bd (ks := []) h)) (Sh.list fun l => Sh.xp (Sh.bd h)))
theorem Sh.args {g g' : List AT → Pg} (h : SL d pre R g g') : Sh d pre R (argsP g) (argsP g') := .read (Sh.ifW (Sh.xp (h [])) (Sh.list fun l => Sh.xp (h l)))
theorem Sh.variable {g g' : AT → Pg} (h : SG d pre R g g') : Sh d pre R (AxT g) (AxT g') := Sh.mrk fun f => Sh.nm fun x => Sh.bd (ks := []) h
theorem Sh.one (h1 : ∀ x : AT, R (x, []) (x.sh d, [])) (x : AT) : Sh d pre R (.ret (x, [])) (.ret (x.sh d, [])) := .ret (h1 x)
end
end Go.Abs.Z

namespace Go.Abs.Z
set_option linter.unusedVariables false
open Go.Proofs Go.RowKit
theorem finD_mem {w : Nat → Wd} {k : Nat} {D : List AD} (hD : Dok k D) : ∀ d ∈ finD w k D, d.i ≤ k := by
  unfold finD;split
  · exact hD.2
  · intro d hd;rcases List.mem_append.1 hd with hd | hd
    · exact hD.2 d hd
    · rw [List.mem_singleton] at hd; subst hd; exact Nat.le_refl _
theorem AwM {s : List UInt8} (_hs : s.length ≤ 4096) : (toksT s).length ≤ s.length + 1 ∧ (lexs s).length ≤ s.length + 1 := by
  have hsc : (scanT s).length ≤ s.length + 1 := AzT (s.length + 1) s 0;exact ⟨Nat.le_trans (List.length_filter_le _ _) hsc, Nat.le_trans (AwD s _) hsc⟩
theorem fin_len {w : Nat → Wd} {k : Nat} {D : List AD} (hD : Dok k D) : (finD w k D).length ≤ k + 2 := by
  have := hD.small;unfold finD;split
  · omega
  · simp; omega
theorem Aj7 {ls : List Tk} (ks : List AT) : ks.isEmpty = true → trPs ls ks = [] := by
  intro h;have := List.isEmpty_iff.1 h;subst this; rfl
mutual
theorem trP_wf {ls : List Tk} : ∀ x : AT, (trP ls x).wf
  | .mk kd tx f k b ks => ⟨fun h => Aj7 ks h, Bz2 ks⟩
theorem Bz2 {ls : List Tk} : ∀ xs : List AT, Tr.wfs (trPs ls xs)
  | [] => trivial
  | x :: xs => ⟨trP_wf x, Bz2 xs⟩
end
theorem K5 {s : List UInt8} {ls : List Tk} {m k : Nat} (H : Toks s ls m) (h : k ≤ m) (h5 : (wAt s ls k).1 = 5) : k = m := by
  rcases Nat.lt_or_ge k m with h' | h'
  · obtain ⟨t, ht⟩ := H.at h;have := H.kd k t ht h';rw [Ak7 ht] at h5
    simp only at h5
    omega
  · omega
theorem wok_toks {s : List UInt8} {ls : List Tk} {m : Nat} (H : Toks s ls m) : Wok (wAt s ls) m := by
  refine ⟨H.end', fun k hk h5 => ?_⟩
  have := K5 H hk h5;subst this;rw [H.end']
theorem runs (s : List UInt8) (hs : s.length ≤ 4096) (x : NT) (hx : okNT x) (hb : x ≠ .br) : ∃ v k D, runN (wAt s (toksT s)) 100000 x 0 [] = some (v, k, D) := by
  have H := Av6 s (by omega)
  obtain ⟨l1, _⟩ := AwM hs
  have hr : rk x ≤ 100 := by
    cases x with
    | ex L => rcases hx with rfl | rfl | rfl | rfl | rfl | rfl <;> decide
    | lp L f y => rcases hx with rfl | rfl | rfl | rfl <;> simp [rk]
    | _ => simp [rk]
  obtain ⟨⟨v, k, D⟩, h⟩ := run_all (wok_toks H) 100000 x 0 hx (fun e => absurd e hb) (by unfold mu; omega) (Nat.zero_le _) [] ⟨List.Pairwise.nil, fun d h => by cases h⟩
  exact ⟨v, k, D, h⟩
theorem runs_ok (s : List UInt8) (hs : s.length ≤ 4096) {x : NT} {v : Rs} {k : Nat} {D : List AD} (h : runN (wAt s (toksT s)) 100000 x 0 [] = some (v, k, D)) : k ≤ (toksT s).length - 1 ∧ Dok k D ∧ EI 100000 x 0 v k := by
  have H := Av6 s (by omega)
  obtain ⟨c1, c2⟩ := ok_in (w5 H) 100000 (by omega)
  have hD0 : Dok 0 [] := ⟨List.Pairwise.nil, fun d h => by cases h⟩
  obtain ⟨o1, o2, o3⟩ := c1 _ _ _ _ h (Nat.zero_le _) hD0;exact ⟨o2, o3, c2 _ _ _ _ _ _ h (Nat.zero_le _) hD0⟩
theorem sd_small {s : List UInt8} (hs : s.length ≤ 4096) {k : Nat} {D : List AD} (hk : k ≤ (toksT s).length - 1) (hD : Dok k D) {R : List Dg} (h : Sd (lexs s ++ dgs (toksT s) (finD (wAt s (toksT s)) k D)) R) : R.length < 1000000000 := by
  have := h.len;obtain ⟨l1, l2⟩ := AwM hs;have := fin_len (w := wAt s (toksT s)) hD;simp only [List.length_append, dgs, List.length_map] at *;omega
end Go.Abs.Z

namespace Go.Abs.Z
open Go.Proofs
set_option linter.unusedVariables false
theorem runL_lf (p : UInt8 → Bool) (hp : p 10 = false) (b : List UInt8) : ∀ c : List UInt8, runL p (c ++ 10 :: b) = runL p c
  | [] => by simp [runL, hp]
  | x :: c => by
    have := runL_lf p hp b c;simp only [runL, List.cons_append, List.takeWhile_cons] at this ⊢;split
    · simp only [List.length_cons, this]
    · rfl
theorem symN_lf (b : List UInt8) (x : UInt8) (c : List UInt8) : symN (x :: c ++ 10 :: b) = symN (x :: c) := by
  cases c with
  | nil => simp [symN]
  | cons y c => simp [symN]
theorem wrN_lf (b : List UInt8) : ∀ c : List UInt8, wrN (c ++ 10 :: b) = wrN c
  | [] => by simp [wrN, stopB, whB]
  | x :: c => by
    have h := wrN_lf b c
    have hs : stopB x (c ++ 10 :: b) = stopB x c := by
      unfold stopB;rw [show x :: (c ++ 10 :: b) = x :: c ++ 10 :: b from rfl, symN_lf]
    simp only [List.cons_append, wrN, hs, h]
theorem tokN_lf (b : List UInt8) {c : List UInt8} (hc : c ≠ []) : tokN (c ++ 10 :: b) = tokN c := by
  cases c with
  | nil => exact absurd rfl hc
  | cons x c =>
    have h1 := runL_lf woB (by decide) b (x :: c)
    have h2 := runL_lf diB (by decide) b (x :: c)
    have h3 := symN_lf b x c;have h4 := wrN_lf b c
    have h5 : (x :: c ++ 10 :: b).take (runL woB (x :: c)) = (x :: c).take (runL woB (x :: c)) := by
      rw [List.take_append_of_le_length (AzO _ _)]
    unfold tokN;rw [h1, h2, h3, h5];simp only [List.cons_append, List.headD_cons, List.tail_cons, h4]
    try rfl
theorem scan_ne : ∀ (n : Nat) (l : List UInt8) (f : Nat), scanF (n + 1) l f ≠ [] := by
  intro n l f;simp only [scanF]
  split <;> simp
end Go.Abs.Z

namespace Go.Abs.Z
open Go.Proofs
set_option linter.unusedVariables false
section
variable {a b : List UInt8}
end
end Go.Abs.Z
