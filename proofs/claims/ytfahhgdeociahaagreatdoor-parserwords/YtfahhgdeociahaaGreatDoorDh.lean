/- A part of the proof: D25. -/
import Derived.Test.YtfahhgdeociahaaGreatDoorDa

set_option linter.unusedVariables false
set_option linter.unusedSimpArgs false
namespace Go.Abs.Z
def AT.fst : AT → Nat
  | .mk _ _ f _ _ _ => f
def AT.lst : AT → Nat
  | .mk _ _ _ k _ _ => k
mutual

def AT.ok : AT → Prop
  | .mk _ _ f k _ ks => f ≤ k ∧ ks.length < 1000000000 ∧ oks f k ks
def oks : Nat → Nat → List AT → Prop
  | lo, hi, [] => lo ≤ hi
  | lo, hi, x :: xs => lo ≤ x.fst ∧ x.ok ∧ oks x.lst hi xs
end
theorem AT.ok.le : ∀ {x : AT}, x.ok → x.fst ≤ x.lst
  | .mk _ _ _ _ _ _, h => h.1
theorem oks.le : ∀ {xs : List AT} {lo hi : Nat}, oks lo hi xs → lo ≤ hi
  | [], _, _, h => h
  | x :: xs, lo, hi, h => by
    obtain ⟨h1, h2, h3⟩ := h;have := h2.le;have := oks.le h3;omega
theorem oks.up : ∀ {xs : List AT} {lo hi hi' : Nat}, oks lo hi xs → hi ≤ hi' → oks lo hi' xs
  | [], _, _, _, h, h' => Nat.le_trans h h'
  | x :: xs, lo, hi, hi', h, h' => ⟨h.1, h.2.1, oks.up h.2.2 h'⟩
theorem oks.down : ∀ {xs : List AT} {lo lo' hi : Nat}, oks lo hi xs → lo' ≤ lo → oks lo' hi xs
  | [], _, _, _, h, h' => Nat.le_trans h' h
  | x :: xs, lo, lo', hi, h, h' => ⟨Nat.le_trans h' h.1, h.2.1, h.2.2⟩
theorem oks.snoc : ∀ {xs : List AT} {lo hi hi' : Nat} {x : AT}, oks lo hi xs → hi ≤ x.fst → x.ok → x.lst ≤ hi' → oks lo hi' (xs ++ [x])
  | [], _, _, _, _, h, h1, h2, h3 => ⟨Nat.le_trans h h1, h2, h3⟩
  | y :: xs, lo, hi, hi', x, h, h1, h2, h3 => ⟨h.1, h.2.1, oks.snoc h.2.2 h1 h2 h3⟩
def In (lo hi : Nat) (x : AT) : Prop := lo ≤ x.fst ∧ x.ok ∧ x.lst ≤ hi
theorem In.oks1 {lo hi : Nat} {x : AT} (h : In lo hi x) : oks lo hi [x] := ⟨h.1, h.2.1, h.2.2⟩
theorem In.up {lo hi hi' : Nat} {x : AT} (h : In lo hi x) (h' : hi ≤ hi') : In lo hi' x := ⟨h.1, h.2.1, Nat.le_trans h.2.2 h'⟩
theorem In.down {lo lo' hi : Nat} {x : AT} (h : In lo hi x) (h' : lo' ≤ lo) : In lo' hi x := ⟨Nat.le_trans h' h.1, h.2.1, h.2.2⟩
theorem in_mk {f k : Nat} {kd : Nat} {tx : List UInt8} {b : Bool} {ks : List AT} (h : oks f k ks) (hl : ks.length < 1000000000) : In f k (.mk kd tx f k b ks) := ⟨Nat.le_refl _, ⟨h.le, hl, h⟩, Nat.le_refl _⟩
theorem in0 {f k : Nat} {kd : Nat} {tx : List UInt8} {b : Bool} (h : f ≤ k) : In f k (.mk kd tx f k b []) := in_mk h (by decide)
theorem Ax4 {lo mid hi : Nat} {x : AT} {xs : List AT} (h : In lo mid x) (h' : oks mid hi xs) : oks lo hi (x :: xs) := ⟨h.1, h.2.1, h'.down h.2.2⟩
section
variable {w : Nat → Wd} {m n : Nat} {k f : Nat} {D : List AD} {c : NT → Nat → List AD → Ans3} {r : Rs × Nat × List AD} {p q : Pg}
def EI (n : Nat) : NT → Nat → Rs → Nat → Prop
  | .ex _, k, v, k1 => In k k1 v.1
  | .lp _ f x, k, v, k1 => In f k x → In f k1 v.1
  | .tl _ acc, k, v, k1 => acc.length + n < 1000000000 → v.2.length < 1000000000 ∧ ∀ lo, oks lo k acc → oks lo k1 v.2
  | .sts acc, k, v, k1 => acc.length + n < 1000000000 → v.2.length < 1000000000 ∧ ∀ lo, oks lo k acc → oks lo k1 v.2
  | .pg acc, k, v, k1 => acc.length + n < 1000000000 → v.2.length < 1000000000 ∧ ∀ lo, oks lo k acc → oks lo k1 v.2
  | .bk, k, v, k1 => In k k1 v.1
  | .st, k, v, k1 => In k k1 v.1
  | .br, k, v, k1 => In k k1 v.1
  | .sk _, _, _, _ => True
  | .sp, _, _, _ => True
def OkII (m n : Nat) (c : NT → Nat → List AD → Ans3) : Prop := OkI m c ∧ ∀ x k D v k1 D1, c x k D = some (v, k1, D1) → k ≤ m → Dok k D → EI n x k v k1
theorem iac (hm : (w m).1 = 5) (x : List UInt8) (h : G3 w m c r (Pg.ifW [x] (.read p) q) k D) : G3 w m c r p (k + 1) D ∨ G3 w m c r q k D := by
  rcases h.ifW with ⟨_, h⟩ | ⟨_, h⟩
  · exact .inl (h.read hm).2
  · exact .inr h
theorem ixp (hm : (w m).1 = 5) (x : List UInt8) (h : G3 w m c r (Pg.xp x p) k D) : ∃ k1 D1, k ≤ k1 ∧ G3 w m c r p k1 D1 := by
  rcases iac hm x h with h | h
  · exact ⟨_, _, by omega, h⟩
  · exact ⟨_, _, Nat.le_refl _, h.rep⟩
theorem inm (hm : (w m).1 = 5) {g : List UInt8 → Pg} (h : G3 w m c r (Pg.nm g) k D) : ∃ x k1 D1, k ≤ k1 ∧ G3 w m c r (g x) k1 D1 := by
  rcases h.ifK with ⟨_, h⟩ | ⟨_, h⟩
  · exact ⟨_, _, _, by omega, (h.rd hm).2⟩
  · exact ⟨_, _, _, Nat.le_refl _, h.rep⟩
theorem inum (hm : (w m).1 = 5) {g : List UInt8 → Pg} (h : G3 w m c r (Pg.num g) k D) : ∃ x k1 D1, k ≤ k1 ∧ G3 w m c r (g x) k1 D1 := by
  rcases h.ifK with ⟨_, h⟩ | ⟨_, h⟩
  · exact ⟨_, _, _, by omega, (h.rd hm).2⟩
  · exact ⟨_, _, _, Nat.le_refl _, h.rep⟩
theorem inop {g : AT → Pg} (h : G3 w m c r (Pg.nop g) k D) : ∃ x, In k k x ∧ G3 w m c r (g x) k D := ⟨_, in0 (Nat.le_refl _), h.mrk.bd⟩
theorem imiss {g : AT → Pg} (h : G3 w m c r (Pg.miss g) k D) : ∃ x, In k k x ∧ G3 w m c r (g x) k D := ⟨_, in0 (Nat.le_refl _), h.mrk.bd⟩
theorem iwr (hm : (w m).1 = 5) {g : AT → Pg} (h : G3 w m c r (written g) k D) : ∃ x k1 D1, k ≤ k1 ∧ In k k1 x ∧ G3 w m c r (g x) k1 D1 := by
  rcases iac hm [58] h with h | h
  · have h := h.mrk;rcases iac hm wInt h with h | h
    · rcases iac hm [91] h with h | h
      · obtain ⟨x, k1, D1, l1, h⟩ := inum hm h;obtain ⟨k2, D2, l2, h⟩ := ixp hm [93] h;exact ⟨_, _, _, by omega, (in0 (f := k + 1) (k := k2) (by omega)).down (by omega), h.bd⟩
      · exact ⟨_, _, _, by omega, (in0 (f := k + 1) (by omega)).down (by omega), h.bd⟩
    · rcases iac hm wBool h with h | h
      · exact ⟨_, _, _, by omega, (in0 (f := k + 1) (by omega)).down (by omega), h.bd⟩
      · rcases h.ifK with ⟨_, h⟩ | ⟨_, h⟩
        · exact ⟨_, _, _, by omega, (in0 (f := k + 1) (k := k + 1 + 1) (by omega)).down (by omega), (h.rd hm).2.bd⟩
        · obtain ⟨x, i1, h⟩ := imiss h.rep;exact ⟨_, _, _, by omega, i1.down (by omega), h⟩
  · obtain ⟨x, i1, h⟩ := inop h;exact ⟨_, _, _, Nat.le_refl _, i1, h⟩
theorem ifield (hm : (w m).1 = 5) {g : AT → Pg} (h : G3 w m c r (AvZ g) k D) : ∃ x k1 D1, k ≤ k1 ∧ In k k1 x ∧ G3 w m c r (g x) k1 D1 := by
  obtain ⟨x, k1, D1, l1, h⟩ := inm hm h.mrk;obtain ⟨k2, D2, l2, h⟩ := ixp hm [58] h;rcases h.ifW with ⟨_, h⟩ | ⟨_, h⟩
  · have h := (h.mrk.rd hm).2;exact ⟨_, _, _, by omega, in_mk (((in0 (f := k2) (k := k2 + 1) (by omega)).down (by omega)).oks1) (by simp), h.bd.bd⟩
  · obtain ⟨y, i1, h⟩ := imiss h.rep;exact ⟨_, _, _, by omega, in_mk ((i1.down (by omega)).oks1) (by simp), h.bd⟩
theorem iparam (hm : (w m).1 = 5) {g : AT → Pg} (h : G3 w m c r (AvN g) k D) : ∃ x k1 D1, k ≤ k1 ∧ In k k1 x ∧ G3 w m c r (g x) k1 D1 := by
  rcases iac hm wVar h.mrk with h | h
  · obtain ⟨x, k1, D1, l1, h⟩ := inm hm h;obtain ⟨t, k2, D2, l2, i2, h⟩ := iwr hm h;exact ⟨_, _, _, by omega, in_mk ((i2.down (by omega)).oks1) (by simp), h.bd⟩
  · obtain ⟨x, k1, D1, l1, h⟩ := inm hm h;obtain ⟨t, k2, D2, l2, i2, h⟩ := iwr hm h;exact ⟨_, _, _, by omega, in_mk ((i2.down (by omega)).oks1) (by simp), h.bd⟩
theorem ivar (hm : (w m).1 = 5) {g : AT → Pg} (h : G3 w m c r (AxT g) k D) : ∃ x k1 D1, k ≤ k1 ∧ In k k1 x ∧ G3 w m c r (g x) k1 D1 := by
  obtain ⟨x, k1, D1, l1, h⟩ := inm hm h.mrk;exact ⟨_, _, _, by omega, in0 (by omega), h.bd⟩
theorem iex (hc : OkII m n c) {L : Nat} {g : AT → Pg} (h : G3 w m c r (Pg.cl (.ex L) g) k D) : ∃ x k1 D1, k ≤ k1 ∧ In k k1 x ∧ G3 w m c r (g x) k1 D1 := by
  obtain ⟨v, k1, D1, h1, h2, h3⟩ := h.cl hc.1;exact ⟨v.1, k1, D1, h2, hc.2 _ _ _ _ _ _ h1 h.le h.ok, h3⟩
theorem ibk (hc : OkII m n c) {g : AT → Pg} (h : G3 w m c r (Pg.cl .bk g) k D) : ∃ x k1 D1, k ≤ k1 ∧ In k k1 x ∧ G3 w m c r (g x) k1 D1 := by
  obtain ⟨v, k1, D1, h1, h2, h3⟩ := h.cl hc.1;exact ⟨v.1, k1, D1, h2, hc.2 _ _ _ _ _ _ h1 h.le h.ok, h3⟩
theorem ielem (hm : (w m).1 = 5) (hc : OkII m n c) (e : El) {g : AT → Pg} (h : G3 w m c r (elemP e g) k D) : ∃ x k1 D1, k ≤ k1 ∧ In k k1 x ∧ G3 w m c r (g x) k1 D1 := by
  cases e with
  | fd => exact ifield hm h
  | pa => exact iparam hm h
  | ex => exact iex hc h
theorem ilist (hm : (w m).1 = 5) (hc : OkII m n c) (hn : n < 900000000) (e : El) {g : List AT → Pg} (h : G3 w m c r (listP e g) k D) : ∃ l k1 D1, k ≤ k1 ∧ oks k k1 l ∧ l.length < 1000000000 ∧ G3 w m c r (g l) k1 D1 := by
  obtain ⟨x, k1, D1, l1, i1, h⟩ := ielem hm hc e h;obtain ⟨v, k2, D2, h1, l2, h3⟩ := h.call hc.1;obtain ⟨b1, b2⟩ := hc.2 _ _ _ _ _ _ h1 h.le h.ok (by simp; omega)
  exact ⟨v.2, k2, D2, by omega, b2 k i1.oks1, b1, h3⟩
theorem iargs (hm : (w m).1 = 5) (hc : OkII m n c) (hn : n < 900000000) {g : List AT → Pg} (h : G3 w m c r (argsP g) k D) : ∃ l k1 D1, k ≤ k1 ∧ oks k k1 l ∧ l.length < 1000000000 ∧ G3 w m c r (g l) k1 D1 := by
  have h := (h.read hm).2;rcases h.ifW with ⟨_, h⟩ | ⟨_, h⟩
  · obtain ⟨k2, D2, l2, h⟩ := ixp hm [41] h;exact ⟨[], k2, D2, by omega, show k ≤ k2 by omega, by decide, h⟩
  · obtain ⟨l, k2, D2, l2, i2, hl, h⟩ := ilist hm hc hn .ex h;obtain ⟨k3, D3, l3, h⟩ := ixp hm [41] h;exact ⟨l, k3, D3, by omega, (i2.down (by omega)).up l3, hl, h⟩
theorem iplace (hm : (w m).1 = 5) (hc : OkII m n c) {g : AT → Pg} (h : G3 w m c r (Bq1 g) k D) : ∃ x k1 D1, k ≤ k1 ∧ In k k1 x ∧ G3 w m c r (g x) k1 D1 := by
  obtain ⟨v, k1, D1, l1, i1, h⟩ := ivar hm h.mrk;rcases iac hm [91] h with h | h
  · obtain ⟨y, k2, D2, l2, i2, h⟩ := iex hc h;obtain ⟨k3, D3, l3, h⟩ := ixp hm [93] h;exact ⟨_, _, _, by omega, in_mk (Ax4 i1 (((i2.down (by omega)).up l3).oks1)) (by simp), h.bd⟩
  · rcases iac hm [46] h with h | h
    · obtain ⟨x, k2, D2, l2, h⟩ := inm hm h;exact ⟨_, _, _, by omega, in_mk ((i1.up (by omega)).oks1) (by simp), h.bd⟩
    · exact ⟨_, _, _, l1, i1, h⟩
theorem irecord (hm : (w m).1 = 5) (hc : OkII m n c) (hn : n < 900000000) {g : AT → Pg} (h : G3 w m c r (AwX g) k D) : ∃ x k1 D1, k ≤ k1 ∧ In k k1 x ∧ G3 w m c r (g x) k1 D1 := by
  have h := (h.mrk.read hm).2;obtain ⟨x, k1, D1, l1, h⟩ := inm hm h;obtain ⟨k2, D2, l2, h⟩ := ixp hm [123] h;obtain ⟨l, k3, D3, l3, i3, hl, h⟩ := ilist hm hc hn .fd h;obtain ⟨k4, D4, l4, h⟩ := ixp hm [125] h;exact ⟨_, _, _, by omega, in_mk ((i3.down (by omega)).up l4) hl, h.bd⟩
theorem iparams (hm : (w m).1 = 5) (hc : OkII m n c) (hn : n < 900000000) {g : AT → Pg} (h : G3 w m c r (AvB g) k D) : ∃ x k1 D1, k ≤ k1 ∧ In k k1 x ∧ G3 w m c r (g x) k1 D1 := by
  obtain ⟨k1, D1, l1, h⟩ := ixp hm [40] h.mrk;rcases h.ifW with ⟨_, h⟩ | ⟨_, h⟩
  · obtain ⟨k2, D2, l2, h⟩ := ixp hm [41] h;exact ⟨_, _, _, by omega, in0 (by omega), h.bd⟩
  · obtain ⟨l, k2, D2, l2, i2, hl, h⟩ := ilist hm hc hn .pa h;obtain ⟨k3, D3, l3, h⟩ := ixp hm [41] h;exact ⟨_, _, _, by omega, in_mk ((i2.down (by omega)).up l3) hl, h.bd⟩
theorem iproc (hm : (w m).1 = 5) (hc : OkII m n c) (hn : n < 900000000) {g : AT → Pg} (h : G3 w m c r (procP g) k D) : ∃ x k1 D1, k ≤ k1 ∧ In k k1 x ∧ G3 w m c r (g x) k1 D1 := by
  have h := (h.mrk.read hm).2;obtain ⟨x, k1, D1, l1, h⟩ := inm hm h;obtain ⟨a, k2, D2, l2, i2, h⟩ := iparams hm hc hn h;obtain ⟨t, k3, D3, l3, i3, h⟩ := iwr hm h;obtain ⟨b, k4, D4, l4, i4, h⟩ := ibk hc h;exact ⟨_, _, _, by omega, in_mk (Ax4 (i2.down (by omega)) (Ax4 i3 i4.oks1)) (by simp), h.bd⟩
theorem inod {kd : Nat} {tx : List UInt8} {us : List AT} (h : G3 w m c r (Pg.nod kd tx f us) k D) (hu : oks f k us) (hl : us.length < 1000000000) : In f r.2.1 r.1.1 := by
  have e := h.bd.ret;rw [e]; exact in_mk hu hl
theorem ilv4 (hm : (w m).1 = 5) (hc : OkII m n c) (h : G3 w m c r lv4P k D) : In k r.2.1 r.1.1 := by
  obtain ⟨x, k1, D1, l1, i1, h⟩ := iex hc h.mrk;rcases h.ifW with ⟨_, h⟩ | ⟨_, h⟩
  · have h := (h.rd hm).2;obtain ⟨y, k2, D2, l2, i2, h⟩ := iex hc h;exact inod h (Ax4 i1 ((i2.down (by omega)).oks1)) (by simp)
  · have e := h.ret;rw [e]; exact i1
theorem iprim (hm : (w m).1 = 5) (hc : OkII m n c) (hn : n < 900000000) (h : G3 w m c r primP k D) : In k r.2.1 r.1.1 := by
  rcases h.mrk.ifK with ⟨_, h⟩ | ⟨_, h⟩
  · exact inod (h.rd hm).2 (show k ≤ k + 1 by omega) (by simp)
  rcases h.ifW with ⟨_, h⟩ | ⟨_, h⟩
  · exact inod (h.rd hm).2 (show k ≤ k + 1 by omega) (by simp)
  have h := h.look;by_cases hk0 : (w k).1 = 0
  · by_cases hp : (w (k + 1)).2 = [40]
    · rw [if_pos ⟨hk0, hp⟩] at h;obtain ⟨l, k3, D3, l3, i3, hl, h⟩ := iargs hm hc hn (h.rd hm).2;exact inod h (i3.down (by omega)) hl
    · rw [if_neg (fun x => hp x.2), if_pos hk0] at h
      obtain ⟨x, k3, D3, l3, i3, h⟩ := iplace hm hc h;have e := h.ret;rw [e]; exact i3
  · rw [if_neg (fun x => hk0 x.1), if_neg hk0] at h
    rcases iac hm [91] h with h | h
    · obtain ⟨l, k3, D3, l3, i3, hl, h⟩ := ilist hm hc hn .ex h;obtain ⟨k4, D4, l4, h⟩ := ixp hm [93] h;exact inod h ((i3.down (by omega)).up l4) hl
    · rcases iac hm wLen h with h | h
      · obtain ⟨k3, D3, l3, h⟩ := ixp hm [40] h;obtain ⟨v, k4, D4, l4, i4, h⟩ := ivar hm h;obtain ⟨k5, D5, l5, h⟩ := ixp hm [41] h;exact inod h (((i4.down (by omega)).up l5).oks1) (by simp)
      · rcases iac hm [40] h with h | h
        · obtain ⟨x, k3, D3, l3, i3, h⟩ := iex hc h;obtain ⟨k4, D4, l4, h⟩ := ixp hm [41] h;have e := h.ret;rw [e]; exact (i3.down (by omega)).up l4
        · obtain ⟨x, i3, h⟩ := imiss h.rep;have e := h.ret;rw [e]; exact i3
theorem ist (hm : (w m).1 = 5) (hc : OkII m n c) (hn : n < 900000000) (h : G3 w m c r (prog .st) k D) : In k r.2.1 r.1.1 := by
  rcases h.ifW with ⟨_, h⟩ | ⟨_, h⟩
  · have h := (h.mrk.read hm).2;obtain ⟨x, k1, D1, l1, h⟩ := inm hm h;obtain ⟨t, k2, D2, l2, i2, h⟩ := iwr hm h;obtain ⟨k3, D3, l3, h⟩ := ixp hm [61] h;obtain ⟨v, k4, D4, l4, i4, h⟩ := iex hc h;obtain ⟨k5, D5, l5, h⟩ := ixp hm [59] h;exact inod h (Ax4 (i2.down (by omega)) (((i4.down (by omega)).up l5).oks1)) (by simp)
  rcases h.ifW with ⟨_, h⟩ | ⟨_, h⟩
  · exact hc.2 _ _ _ _ _ _ h.lst h.le h.ok
  rcases h.ifW with ⟨_, h⟩ | ⟨_, h⟩
  · have h := (h.mrk.read hm).2;obtain ⟨u, k1, D1, l1, i1, h⟩ := iex hc h;obtain ⟨b, k2, D2, l2, i2, h⟩ := ibk hc h;exact inod h (Ax4 (i1.down (by omega)) i2.oks1) (by simp)
  rcases h.ifW with ⟨_, h⟩ | ⟨_, h⟩
  · have h := (h.mrk.read hm).2;obtain ⟨x, k1, D1, l1, h⟩ := inm hm h;obtain ⟨k2, D2, l2, h⟩ := ixp hm [61] h;obtain ⟨u, k3, D3, l3, i3, h⟩ := iex hc h;obtain ⟨k4, D4, l4, h⟩ := ixp hm wTo h;obtain ⟨v, k5, D5, l5, i5, h⟩ := iex hc h;obtain ⟨b, k6, D6, l6, i6, h⟩ := ibk hc h;exact inod h (Ax4 ((i3.down (by omega)).up l4) (Ax4 i5 i6.oks1)) (by simp)
  rcases h.ifW with ⟨_, h⟩ | ⟨_, h⟩
  · have h := (h.mrk.read hm).2.look;cases hb : begE (w (k + 1)) with
    | true =>
      rw [hb, if_pos rfl] at h;obtain ⟨x, k2, D2, l2, i2, h⟩ := iex hc h;obtain ⟨k3, D3, l3, h⟩ := ixp hm [59] h;exact inod h (((i2.down (by omega)).up l3).oks1) (by simp)
    | false =>
      rw [hb, if_neg (by simp)] at h
      obtain ⟨x, i2, h⟩ := inop h;obtain ⟨k3, D3, l3, h⟩ := ixp hm [59] h;exact inod h (((i2.down (by omega)).up l3).oks1) (by simp)
  rcases h.ifW with ⟨_, h⟩ | ⟨_, h⟩
  · have h := (h.mrk.read hm).2;obtain ⟨x, k2, D2, l2, i2, h⟩ := iex hc h;obtain ⟨k3, D3, l3, h⟩ := ixp hm [59] h;exact inod h (((i2.down (by omega)).up l3).oks1) (by simp)
  rcases h.ifK with ⟨_, h⟩ | ⟨_, h⟩
  · have h := h.mrk.look;by_cases hp : (w (k + 1)).2 = [40]
    · rw [if_pos hp] at h;obtain ⟨l, k3, D3, l3, i3, hl, h⟩ := iargs hm hc hn (h.rd hm).2;obtain ⟨k4, D4, l4, h⟩ := ixp hm [59] h;exact inod h ((i3.down (by omega)).up l4) hl
    · rw [if_neg hp] at h;obtain ⟨x, k2, D2, l2, i2, h⟩ := iplace hm hc h;obtain ⟨k3, D3, l3, h⟩ := ixp hm [61] h;obtain ⟨v, k4, D4, l4, i4, h⟩ := iex hc h;obtain ⟨k5, D5, l5, h⟩ := ixp hm [59] h;exact inod h (Ax4 i2 (((i4.down (by omega)).up l5).oks1)) (by simp)
  obtain ⟨v, k1, D1, h1, l1, h2⟩ := h.rep.mrk.call hc.1;exact inod h2 (show k ≤ k1 by omega) (by simp)
theorem ok_in (hm : (w m).1 = 5) : ∀ n, n < 900000000 → OkII m n (runN w n)
  | 0, _ => ⟨AxR hm 0, fun x k D v k1 D1 h => by cases h⟩
  | n + 1, hn => by
    have hc := ok_in hm n (by omega)
    refine ⟨AxR hm (n + 1), fun x k D v k1 D1 hrun hk hD => ?_⟩
    have h : G3 w m (runN w n) (v, k1, D1) (prog x) k D := ⟨hrun, hk, hD⟩;have hkk : k ≤ k1 := (AxR hm (n + 1) x k D _ hrun hk hD).1;clear hrun;have hn' : n < 900000000 := by omega
    cases x with
    | ex L =>
      show In k k1 v.1
      have low : ∀ L, G3 w m (runN w n) (v, k1, D1) (Pg.mrk fun f => Pg.cl (.ex (L + 1)) fun x => Pg.lst (.lp L f x)) k D → In k k1 v.1 := by
        intro L h;obtain ⟨x, k2, D2, l2, i2, h⟩ := iex hc h.mrk;exact hc.2 _ _ _ _ _ _ h.lst h.le h.ok i2
      by_cases h3 : L = 3
      · subst h3;rcases iac hm wNot h.mrk with h | h
        · obtain ⟨x, k2, D2, l2, i2, h⟩ := iex hc h;exact inod h ((i2.down (by omega)).oks1) (by simp)
        · exact ilv4 hm hc h
      · by_cases h7 : L = 7
        · subst h7;rcases iac hm [45] h.mrk with h | h
          · obtain ⟨x, k2, D2, l2, i2, h⟩ := iex hc h;exact inod h ((i2.down (by omega)).oks1) (by simp)
          · exact iprim hm hc hn' h
        · have e : prog (.ex L) = Pg.mrk fun f => Pg.cl (.ex (L + 1)) fun x => Pg.lst (.lp L f x) := by
            rw [prog]
            · exact fun h => h3 h
            · exact fun h => h7 h
          rw [e] at h;exact low L h
    | lp L f x =>
      intro hx;rcases G3.ifW (show G3 w m (runN w n) (v, k1, D1) (Pg.ifW (opL L) (Pg.rd fun o => Pg.cl (.ex (L + 1)) fun y => Pg.bd 29 o f false [x, y] fun z => Pg.lst (.lp L f z)) (.ret (x, []))) k D from h) with ⟨_, h⟩ | ⟨_, h⟩
      · have h := (h.rd hm).2;obtain ⟨y, k2, D2, l2, i2, h⟩ := iex hc h;have h := h.bd;exact hc.2 _ _ _ _ _ _ h.lst h.le h.ok (in_mk (Ax4 hx ((i2.down (by omega)).oks1)) (by simp))
      · have e := h.ret;cases e; exact hx
    | tl e acc =>
      intro hl;rcases iac hm [44] h with h | h
      · obtain ⟨x, k2, D2, l2, i2, h⟩ := ielem hm hc e h;obtain ⟨b1, b2⟩ := hc.2 _ _ _ _ _ _ h.lst h.le h.ok (by simp; omega)
        exact ⟨b1, fun lo ha => b2 lo (ha.snoc (by have := i2.1; omega) i2.2.1 i2.2.2)⟩
      · have e := h.ret;cases e;exact ⟨show acc.length < 1000000000 by omega, fun lo ha => ha⟩
    | bk =>
      show In k k1 v.1;rcases iac hm [123] h.mrk with h | h
      · obtain ⟨u, k2, D2, h1, l2, h2⟩ := h.call hc.1;obtain ⟨b1, b2⟩ := hc.2 _ _ _ _ _ _ h1 h.le h.ok (by simp; omega)
        obtain ⟨k3, D3, l3, h⟩ := ixp hm [125] h2;exact inod h ((b2 k (show k ≤ k + 1 by omega)).up l3) b1
      · have e := h.rep.bd.ret;cases e; exact in0 (Nat.le_refl _)
    | sts acc =>
      intro hl;rcases h.ifW with ⟨_, h⟩ | ⟨_, h⟩
      · have e := h.ret;cases e; exact ⟨show acc.length < 1000000000 by omega, fun lo ha => ha⟩
      · rcases h.ifK with ⟨_, h⟩ | ⟨_, h⟩
        · have e := h.ret;cases e; exact ⟨show acc.length < 1000000000 by omega, fun lo ha => ha⟩
        · obtain ⟨u, k2, D2, h1, l2, h⟩ := h.cl hc.1;have i2 : In k k2 u.1 := hc.2 _ _ _ _ _ _ h1 hk hD;obtain ⟨b1, b2⟩ := hc.2 _ _ _ _ _ _ h.lst h.le h.ok (by simp; omega)
          exact ⟨b1, fun lo ha => b2 lo (ha.snoc i2.1 i2.2.1 i2.2.2)⟩
    | st => exact ist hm hc hn' h
    | br =>
      show In k k1 v.1;have h := (h.mrk.read hm).2;obtain ⟨u, k2, D2, l2, i2, h⟩ := iex hc h;obtain ⟨b, k3, D3, l3, i3, h⟩ := ibk hc h;rcases iac hm wElse h with h | h
      · rcases h.ifW with ⟨_, h⟩ | ⟨_, h⟩
        · obtain ⟨o, k5, D5, h1, l5, h5⟩ := h.cl hc.1;have i5 : In (k3 + 1) k5 o.1 := hc.2 _ _ _ _ _ _ h1 h.le h.ok;exact inod h5 (Ax4 (i2.down (by omega)) (Ax4 i3 ((i5.down (by omega)).oks1))) (by simp)
        · obtain ⟨o, k5, D5, l5, i5, h⟩ := ibk hc h;exact inod h (Ax4 (i2.down (by omega)) (Ax4 i3 ((i5.down (by omega)).oks1))) (by simp)
      · obtain ⟨o, i5, h⟩ := inop h;exact inod h (Ax4 (i2.down (by omega)) (Ax4 i3 i5.oks1)) (by simp)
    | sk f => trivial
    | sp => trivial
    | pg acc =>
      intro hl;rcases h.ifK with ⟨_, h⟩ | ⟨_, h⟩
      · have e := h.ret;cases e; exact ⟨show acc.length < 1000000000 by omega, fun lo ha => ha⟩
      · rcases h.ifW with ⟨_, h⟩ | ⟨_, h⟩
        · obtain ⟨x, k2, D2, l2, i2, h⟩ := irecord hm hc hn' h;obtain ⟨b1, b2⟩ := hc.2 _ _ _ _ _ _ h.lst h.le h.ok (by simp; omega)
          exact ⟨b1, fun lo ha => b2 lo (ha.snoc i2.1 i2.2.1 i2.2.2)⟩
        · rcases h.ifW with ⟨_, h⟩ | ⟨_, h⟩
          · obtain ⟨x, k2, D2, l2, i2, h⟩ := iproc hm hc hn' h;obtain ⟨b1, b2⟩ := hc.2 _ _ _ _ _ _ h.lst h.le h.ok (by simp; omega)
            exact ⟨b1, fun lo ha => b2 lo (ha.snoc i2.1 i2.2.1 i2.2.2)⟩
          · have h := (h.rep.mrk.read hm).2;obtain ⟨u, k2, D2, h1, l2, h2⟩ := h.call hc.1;have h3 := h2.bd;have i2 : In k k2 (.mk 1 [] k k2 false []) := in0 (by omega)
            obtain ⟨b1, b2⟩ := hc.2 _ _ _ _ _ _ h3.lst h3.le h3.ok (by simp; omega)
            exact ⟨b1, fun lo ha => b2 lo (ha.snoc i2.1 i2.2.1 i2.2.2)⟩
end
end Go.Abs.Z
