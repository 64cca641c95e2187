/- A part of the proof: P5 P6 P7. -/
import Derived.Test.YtkmhldloehaamaaGreatDoorPb
import Derived.Outline

set_option linter.unusedVariables false
set_option linter.unusedSimpArgs false
namespace Go.Abs.Z
open Go.Proofs Go.RowKit Go.Shelf
set_option linter.unusedVariables false
attribute [local go_sem] Oper.semAt_some
def fi58 : FI := { kd := [.plain, .imm, .plain, .imm, .obj, .imm, .imm], al := [], keep := [], nt := 49, ps := [], still := [], bt := some (63, 5) }
def abody : ACode := (.block 1 (.seq (.region [⟨none, (some 13), (.r (.ld 1 false)), [(.slot 3)], [], []⟩, ⟨none, (some 14), (.p (.fa 0 1 false)), [(.slot 5)], [], []⟩, ⟨none, (some 15), (.r (.ld 1 false)), [(.slot 14)], [], []⟩, ⟨none, (some 16), (.p (.look (.agg [.nilf, .nils, .nilf, (.int .i64 0)]) true true)), [(.slot 13), (.slot 15)], [], []⟩, ⟨none, (some 12), (.p .mv), [(.slot 16)], [], []⟩, ⟨none, (some 17), (.p (.ext 0)), [(.slot 12)], [], []⟩, ⟨none, (some 18), (.p (.ext 1)), [(.slot 12)], [], []⟩, ⟨none, (some 6), (.p (.zi 4)), [], [], []⟩, ⟨none, none, (.p (.sti 4)), [(.slot 6), (.slot 17)], [6], []⟩, ⟨none, (some 7), (.p .mv), [(.slot 18)], [], []⟩]) (.seq (.region [⟨none, (some 19), (.r (.ld 1 false)), [(.slot 4)], [], []⟩, ⟨none, (some 20), (.p .mv), [(.slot 19)], [], []⟩, ⟨(some (20, true)), (some 21), (.p .mv), [(.slot 7)], [], []⟩, ⟨none, (some 22), (.p .pick), [(.slot 20), (.slot 21), (.val (.bool false))], [], []⟩, ⟨none, (some 23), (.p .mv), [(.slot 22)], [], []⟩, ⟨(some (23, true)), (some 24), (.r (.ld 4 true)), [(.slot 6)], [], []⟩, ⟨(some (23, true)), (some 25), (.r (.ld 5 true)), [(.slot 5)], [], []⟩, ⟨(some (23, true)), (some 26), (.c 106), [(.slot 24), (.slot 25)], [], []⟩, ⟨none, (some 27), (.p .pick), [(.slot 23), (.slot 26), (.val (.bool false))], [], []⟩, ⟨none, none, (.w (.st 1)), [(.slot 4), (.slot 27)], [], []⟩]) (.seq (.region [⟨none, (some 28), (.p (.fa 0 1 false)), [(.slot 5)], [], []⟩, ⟨none, (some 29), (.r (.ld 1 false)), [(.slot 28)], [], []⟩, ⟨none, (some 30), (.p (.bin .eql 0)), [(.slot 29), (.val (.int .i64 4))], [], []⟩, ⟨none, (some 31), (.p .mv), [(.slot 30)], [], []⟩, ⟨(some (31, true)), (some 32), (.r (.ld 1 false)), [(.slot 4)], [], []⟩, ⟨none, (some 33), (.p .pick), [(.slot 31), (.slot 32), (.val (.bool false))], [], []⟩]) (.cond (.slot 33) (.region [⟨none, (some 34), (.p (.fa 4 1 false)), [(.slot 5)], [], []⟩, ⟨none, (some 35), (.r (.ld 1 false)), [(.slot 34)], [], []⟩, ⟨none, (some 36), (.p (.idx 5)), [(.slot 35), (.val (.int .i64 0))], [], []⟩, ⟨none, (some 37), (.p (.fa 1 1 false)), [(.slot 36)], [], []⟩, ⟨none, (some 38), (.r (.ld 1 false)), [(.slot 37)], [], []⟩, ⟨none, (some 39), (.p (.bin .eql 0)), [(.slot 38), (.val (.str [105, 110, 116]))], [], []⟩, ⟨none, (some 40), (.p .mv), [(.slot 39)], [], []⟩, ⟨(some (40, false)), (some 41), (.p (.fa 4 1 false)), [(.slot 5)], [], []⟩, ⟨(some (40, false)), (some 42), (.r (.ld 1 false)), [(.slot 41)], [], []⟩, ⟨(some (40, false)), (some 43), (.p (.idx 5)), [(.slot 42), (.val (.int .i64 0))], [], []⟩, ⟨(some (40, false)), (some 44), (.p (.fa 1 1 false)), [(.slot 43)], [], []⟩, ⟨(some (40, false)), (some 45), (.r (.ld 1 false)), [(.slot 44)], [], []⟩, ⟨(some (40, false)), (some 46), (.p (.bin .eql 0)), [(.slot 45), (.val (.str [98, 111, 111, 108]))], [], []⟩, ⟨none, (some 47), (.p .pick), [(.slot 40), (.val (.bool true)), (.slot 46)], [], []⟩, ⟨none, none, (.w (.st 1)), [(.slot 4), (.slot 47)], [], []⟩]) .skip)))))
def ff58 (m x : PV) : FF := [(5, some (.vptr x)), (4, some (.ref 0 0)), (3, some (.vptr m))]
noncomputable def roundF (call : Caller) (m : PV) (ok : Bool) (x : PV) : Option Bool :=
  match arunK pur call 10 abody (ff58 m x) [[.bool ok]] with
  | some (.normal, _, [[.bool b]]) => some b
  | _ => none
noncomputable def foldR (call : Caller) (m : PV) : Bool → List Tr → Option Bool
  | ok, [] => some ok
  | ok, t :: ts => match roundF call m ok t.pv with
    | some b => foldR call m b ts
    | none => none
def mapO (f : PV → Option Tr) : List PV → Option (List Tr)
  | [] => some []
  | x :: xs => match f x, mapO f xs with
    | some t, some ts => some (t :: ts)
    | _, _ => none
def toTr : Nat → PV → Option Tr
  | 0, _ => none
  | n + 1, x => match x with
    | .agg [.int .i64 k, .str t, .int .i64 a, .int .i64 e, .nils] => some (.mk k t a e true [])
    | .agg [.int .i64 k, .str t, .int .i64 a, .int .i64 e, .slice false 5 es] => (mapO (toTr n) es).map (.mk k t a e false)
    | _ => none
def isMap : PV → Bool
  | .mapv _ _ => true
  | _ => false
noncomputable def totalR (call : Caller) (m : PV) (t : Tr) : Bool := (roundF call m true t.pv).isSome && (roundF call m false t.pv).isSome
noncomputable def pShaped : Prim := fun call xs σ => match xs, σ with
  | [x], [] => match toTr 300 x with
    | some T => match call 104 [] [] with
      | some (m, _) => if isMap m = true ∧ T.pre.length ≤ 4611686018427387904 ∧ T.pre.all (totalR call m) = true then (foldR call m true T.pre).map fun b => (.bool b, []) else none
      | none => none
    | none => none
  | _, _ => none
theorem mapO_spec {f : PV → Option Tr} (hf : ∀ x t, f x = some t → t.pv = x ∧ t.wf) : ∀ (es : List PV) (ts : List Tr), mapO f es = some ts → Tr.pvs ts = es ∧ Tr.wfs ts
  | [], ts, h => by cases h; exact ⟨rfl, trivial⟩
  | x :: xs, ts, h => by
    simp only [mapO] at h
    split at h
    · rename_i t ts' h1 h2;cases h;obtain ⟨e1, e2⟩ := hf x t h1;obtain ⟨e3, e4⟩ := mapO_spec hf xs ts' h2;exact ⟨by rw [Tr.pvs, e1, e3], e2, e4⟩
    · cases h
theorem toTr_spec : ∀ (n : Nat) (x : PV) (T : Tr), toTr n x = some T → T.pv = x ∧ T.wf
  | 0, x, T, h => by cases h
  | n + 1, x, T, h => by
    simp only [toTr] at h
    split at h
    · cases h;exact ⟨by simp [Tr.pv], by simp [Tr.wf, Tr.wfs]⟩
    · obtain ⟨ts, h1, rfl⟩ := Option.map_eq_some_iff.1 h;obtain ⟨e1, e2⟩ := mapO_spec (toTr_spec n) _ _ h1;exact ⟨by simp [Tr.pv, e1], by simp [Tr.wf, e2]⟩
    · cases h
theorem foldR_snoc (call : Caller) (m : PV) : ∀ (ts : List Tr) (ok b : Bool) (t : Tr), foldR call m ok ts = some b → foldR call m ok (ts ++ [t]) = roundF call m b t.pv
  | [], ok, b, t, h => by
    cases h;simp only [List.nil_append, foldR];cases roundF call m ok t.pv <;> rfl
  | u :: us, ok, b, t, h => by
    simp only [foldR, List.cons_append] at h ⊢
    split at h
    · rename_i c hc;exact foldR_snoc call m us c b t h
    · cases h
theorem ent58 : AzB Tryz.prog 62 := ⟨Tryz.f62, Tryz.func62, by kernel_rfl, by kernel_rfl⟩
theorem ok58 : fi58.okB = true := by kernel_rfl
theorem okAbody : AxR 49 abody = true := by kernel_rfl
def A58 (m x : PV) : Frm := ((List.replicate 49 none).set 3 (some (.vptr m))).set 4 (some (.ref 0 0)) |>.set 5 (some (.vptr x))
theorem rel58 (m x : PV) : Rel 49 (ff58 m x) (A58 m x) := by
  refine ⟨by simp [A58], fun t v h => ?_⟩
  simp only [ff58, getK_cons] at h;unfold A58;rw [Ax5, Ax5, Ax5];cases h5 : Nat.beq 5 t with
  | true =>
    rw [h5] at h;have : 5 = t := Nat.eq_of_beq_eq_true h5;subst this;rw [if_pos ⟨rfl, by simp⟩]; exact h
  | false =>
    rw [h5] at h;have h5' : 5 ≠ t := Nat.ne_of_beq_eq_false h5;rw [if_neg (fun e => h5' e.1.symm)]
    cases h4 : Nat.beq 4 t with
    | true =>
      rw [h4] at h;have : 4 = t := Nat.eq_of_beq_eq_true h4;subst this;rw [if_pos ⟨rfl, by simp⟩]; exact h
    | false =>
      rw [h4] at h;have h4' : 4 ≠ t := Nat.ne_of_beq_eq_false h4;rw [if_neg (fun e => h4' e.1.symm)]
      cases h3 : Nat.beq 3 t with
      | true =>
        rw [h3] at h;have : 3 = t := Nat.eq_of_beq_eq_true h3;subst this;rw [if_pos ⟨rfl, by simp⟩]; exact h
      | false => rw [h3] at h; cases h
theorem A58_get {m x : PV} {t : Nat} {v : PV} (h : (A58 m x).get t = some v) : (t = 5 ∧ v = .vptr x) ∨ (t = 4 ∧ v = .ref 0 0) ∨ (t = 3 ∧ v = .vptr m) := by
  unfold A58 at h;rw [Ax5, Ax5, Ax5] at h
  split at h
  · rename_i e; cases h; exact .inl ⟨e.1, rfl⟩
  · split at h
    · rename_i e; cases h; exact .inr (.inl ⟨e.1, rfl⟩)
    · split at h
      · rename_i e; cases h; exact .inr (.inr ⟨e.1, rfl⟩)
      · unfold Frm.get at h
        split at h
        · rename_i o ho;have := List.mem_of_getElem? ho;rw [List.mem_replicate] at this;rw [this.2] at h; cases h
        · cases h
theorem roundF_run {call : Caller} {m x : PV} {ok b : Bool} (h : roundF call m ok x = some b) : ∃ A', arun pur call 10 abody (A58 m x) [[.bool ok]] = some (.normal, A', [[.bool b]]) := by
  unfold roundF at h
  split at h
  · rename_i ff b' hr;cases h;obtain ⟨A', h1, _⟩ := arunK_sim abody _ _ _ _ _ _ okAbody (rel58 m x) hr;exact ⟨A', h1⟩
  · cases h
def OkAt (W : World) (b : Nat) (ok : Bool) : Prop := ∃ t, W.heap[b]? = some (.cells #[.bool ok] t (0, 0))
theorem round58 {call : Caller} (hS : Sound Tryz.prog call) {body : Code} (hcomp : comp Tryz.prog pur fi58 body = some abody) {m x : PV} {ok b : Bool} (hrun : roundF call m ok x = some b) (l n : Nat) (a' : Act) (W : World) (B b3 b4 b5 : Nat) (w0 : World)
    (hB : B ≤ W.heap.size) (hb4 : b4 < B) (hb5 : b5 < W.heap.size) (h54 : b5 ≠ b4) (hsz : a'.tmps.size = 49) (hdf : a'.defers = []) (h3 : at' a' 3 = .pointer (some ⟨b3, 0, none⟩)) (h4 : at' a' 4 = .pointer (some ⟨b4, 0, none⟩)) (h5 : at' a' 5 = .pointer (some ⟨b5, 0, none⟩))
    (hok : OkAt W b4 ok) (hm : Rep (I4 B b4) W (.pointer (some ⟨b3, 0, none⟩)) (.vptr m)) (hx : Rep (fun k _ => k < W.heap.size ∧ k ≠ b4) W (.pointer (some ⟨b5, 0, none⟩)) (.vptr x)) {Q : Exit → Act → World → Prop}
    (hq : ∀ a'' W', OkAt W' b4 b → W.heap.size ≤ W'.heap.size → (∀ k, k < W.heap.size → k ≠ b4 → W'.heap[k]? = W.heap[k]?) → W'.os = W.os → W'.tape = W.tape → W'.output = W.output → Q .normal a'' W') :
    body.wpIn (FW (some l)) n Tryz.prog Q a' W := by
  obtain ⟨A', hA⟩ := roundF_run hrun;obtain ⟨te, hok⟩ := hok
  let G : Gh := ⟨fun k _ => k < W.heap.size ∧ k ≠ b4, fun k => if k = b4 then some (.obj 0 Option.none) else Option.none, [b4]⟩
  let K : Nat → Prop := fun k => k < W.heap.size ∧ k ≠ b4
  have hcx := cxOk ok58 K G W;have hm' : Rep G.I W (.pointer (some ⟨b3, 0, none⟩)) (.vptr m) := hm.mono (fun k x h => ⟨by have := h.1; omega, h.2⟩) (Same.refl _ _)
  have hinv : Inv (mkCx fi58 ok58 K G W) G a' W (A58 m x) [[.bool ok]] := by
    refine ⟨hdf, hsz, by simp [A58, mkCx, fi58], ⟨fun _ _ => rfl, Same.refl _ _, fun _ _ h => h, fun _ _ h => .inl h, fun k x h => h.1, fun k tag h => ?_, fun k h => h.1, Nat.le_refl _, List.prefix_rfl, rfl, rfl, rfl⟩, fun t v hv => ?_, fun id cs hc => ?_, rfl⟩
    · simp only [G] at h
      split at h
      · rename_i e; subst e; exact ⟨by omega, fun hk => hk.2 rfl⟩
      · cases h
    · rcases A58_get hv with ⟨rfl, rfl⟩ | ⟨rfl, rfl⟩ | ⟨rfl, rfl⟩
      · rw [AqR rfl rfl, h5];exact ⟨.one (.inl hx), trivial⟩
      · rw [AqR rfl rfl, h4];exact ⟨.one (.inr ⟨0, 0, b4, rfl, rfl, rfl⟩), trivial⟩
      · rw [AqR rfl rfl, h3];exact ⟨.one (.inl hm'), trivial⟩
    · cases id with
      | zero =>
        simp at hc;subst hc;refine ⟨b4, rfl, .inl ⟨if_pos rfl, fun x h => h.2 rfl, #[.bool ok], te, hok, rfl, fun j p hp => ?_⟩⟩
        cases j with
        | zero => simp at hp; subst hp; exact .inl ⟨.bool _, trivial⟩
        | succ j => simp at hp
      | succ id => simp at hc
  refine code_sound hS hcx mixed body abody hcomp 10 _ _ _ A' _ hA a' W ⟨G, hinv⟩ Q fun a'' W' hs _ => ?_
  obtain ⟨G', hi'⟩ := hs;have hb := hi'.base
  have hbl : G'.bl[0]? = some b4 := by
    obtain ⟨r, hr⟩ := hb.bl;rw [← hr]; rfl
  obtain ⟨b', hb1, hb2⟩ := hi'.obj 0 [.bool b] rfl;rw [hbl] at hb1; cases hb1
  have hcell : OkAt W' b4 b := by
    rcases hb2 with ⟨hω, hnI, cs, elem, hh, hsz', hall⟩ | ⟨_, _, _, e, _⟩ | e
    · have h0 := ((hall 0 (.bool b) rfl).rep (by simp)).1
      have hv := (RepT.one (bl := []) (.inl h0)).AjC
      match cs, hsz', hv, hh with
      | ⟨[c]⟩, _, hv, hh =>
        have : c = .bool b := hv;subst this;exact ⟨elem, hh⟩
    · cases e
    · cases e
  exact hq a'' W' hcell hb.grow (fun k h1 h2 => hb.keep k ⟨h1, h2⟩) hb.os hb.tape hb.output
def I58 (call : Caller) (m : PV) {Q : Tr → Prop} (B b4 : Nat) (wl : World) (pre : List (Nd Q B b4 wl)) (W : World) : Prop :=
  ∃ ok, foldR call m true (pre.map Nd.tr) = some ok ∧ OkAt W b4 ok ∧ Lies B b4 wl W ∧ W.os = wl.os ∧ W.tape = wl.tape ∧ W.output = wl.output
theorem I58_own (call : Caller) (m : PV) {Q : Tr → Prop} (B b4 : Nat) (wl : World) (hB : B = wl.heap.size) (hb4 : b4 < B) : OwnFrom wl.heap.size (I58 call m (Q := Q) B b4 wl) := by
  rintro s W W' row ⟨ok, h1, ⟨t, h2⟩, h3, h4, h5, h6⟩ hg hr
  have hk : ∀ k, k < wl.heap.size → W'.heap[k]? = W.heap[k]? := fun k hk => hg.block k (by have := h3.1; omega) (fun e => by have := (hr k e.symm).1; omega)
  exact ⟨ok, h1, ⟨t, by rw [hk b4 (by omega)]; exact h2⟩, ⟨Nat.le_trans h3.1 hg.size, fun k h1 h2 => by rw [hk k (by omega)]; exact h3.2 k h1 h2⟩, hg.os.trans h4, hg.tape.trans h5, hg.output.trans h6⟩
def Ax58 {Q : Tr → Prop} (B b3 b4 : Nat) (wl : World) (x : Nd Q B b4 wl) (a' : Act) (W : World) : Prop :=
  ∃ b5 k s st en kv, B ≤ b5 ∧ b5 < W.heap.size ∧ x.val = nodeV k s st en kv ∧ W.heap[b5]? = some (.cells #[.int .i64 k, .string s, .int .i64 st, .int .i64 en, kv] 24 (0, 0)) ∧ a'.tmps.size = 49 ∧ a'.defers = [] ∧
    at' a' 3 = .pointer (some ⟨b3, 0, none⟩) ∧ at' a' 4 = .pointer (some ⟨b4, 0, none⟩) ∧ at' a' 5 = .pointer (some ⟨b5, 0, none⟩)
theorem Ax58_own {Q : Tr → Prop} (B b3 b4 : Nat) (wl : World) (x : Nd Q B b4 wl) (a' : Act) : OwnFrom wl.heap.size (fun (_ : Unit) W => Ax58 B b3 b4 wl x a' W) := by
  rintro s W W' row ⟨b5, k, sb, st, en, kv, h0, h1, h2, h3, h4⟩ hg hr
  refine ⟨b5, k, sb, st, en, kv, h0, Nat.lt_of_lt_of_le h1 hg.size, h2, ?_, h4⟩
  rw [hg.block b5 h1 (fun e => ?_)]
  · exact h3
  · obtain ⟨_, o, ho, hc⟩ := hr b5 e.symm;rw [h3] at ho; cases ho; cases hc
theorem vptr_of_block {I : Imm} {w : World} {b : Nat} {k : Int} {s : ByteArray} {st en : Int} {kv : Value} {T : Tr} {t : TypeId} (hh : w.heap[b]? = some (.cells #[.int .i64 k, .string s, .int .i64 st, .int .i64 en, kv] t (0, 0))) (hI : ∀ j, I b (some j))
    (hr : Rep I w (nodeV k s st en kv) T.pv) : Rep I w (.pointer (some ⟨b, 0, none⟩)) (.vptr T.pv) := by
  obtain ⟨k', s', st', en', kv', n, ks, rfl, e, hk⟩ := AjY hr;cases e;have hrc := (Az9 hr).2;refine .vptr (fun j => (nodeV k s st en kv).cells.getD j undef) (fun j p hp => hI _) (fun j p hp => ?_) (fun j p hp => hrc j p hp)
  have hj : j < 5 := by
    have := (List.getElem?_eq_some_iff.1 hp).1
    simp [Tr.pv, PV.cells] at this; exact this
  simp only [World.cell?, hh, Nat.zero_add, nodeV, Value.cells]
  match j, hj with
  | 0, _ => rfl
  | 1, _ => rfl
  | 2, _ => rfl
  | 3, _ => rfl
  | 4, _ => rfl
end Go.Abs.Z

namespace Go.Abs.Z
open Go.Proofs Go.RowKit Go.Shelf
set_option linter.unusedVariables false
attribute [local go_sem] Oper.semAt_some
def SPost (w : World) (b : Bool) (e : Ending) (w' : World) : Prop := e = .returned (.bool b) ∧ Below w.heap.size w w'
theorem keepsFrom_of {B b4 : Nat} {W W' : World} (hb : b4 < B) (hsz : W.heap.size ≤ W'.heap.size) (hk : ∀ k, k < W.heap.size → k ≠ b4 → W'.heap[k]? = W.heap[k]?) : KeepsFrom B W W' := by
  refine ⟨hsz, fun k o hB ho _ => ?_⟩
  have hlt : k < W.heap.size := by
    rcases Nat.lt_or_ge k W.heap.size with h' | h'
    · exact h'
    · rw [Array.getElem?_eq_none h'] at ho; cases ho
  rw [hk k hlt (by omega)]; exact ho
theorem kp4_of {B b4 : Nat} {W W' : World} (hsz : W.heap.size ≤ W'.heap.size) (hk : ∀ k, k < W.heap.size → k ≠ b4 → W'.heap[k]? = W.heap[k]?) : Kp4 B b4 W W' := by
  refine ⟨hsz, fun k o ho hne _ => ?_⟩
  have hlt : k < W.heap.size := by
    rcases Nat.lt_or_ge k W.heap.size with h' | h'
    · exact h'
    · rw [Array.getElem?_eq_none h'] at ho; cases ho
  rw [hk k hlt hne]; exact ho
theorem kp4_put {B b4 : Nat} {w : World} (hB : B ≤ w.heap.size) (W : World) (l : Nat) (o o' : Obj) (hl : w.heap.size ≤ l) (h : W.heap[l]? = some o) (hc : o.isCells = false) (_ : o.isWalk = false) : Kp4 B b4 W (W.putObj l o') := by
  have hg := grownBy_putObj' W l o';refine ⟨hg.size, fun k o2 ho hne hor => ?_⟩
  have hkl : k ≠ l := by
    rintro rfl
    rw [h] at ho; cases ho;rcases hor with h' | h'
    · rw [hc] at h'; cases h'
    · omega
  have hlt : k < W.heap.size := by
    rcases Nat.lt_or_ge k W.heap.size with h' | h'
    · exact h'
    · rw [Array.getElem?_eq_none h'] at ho; cases ho
  rw [hg.block k hlt (fun e => hkl (Option.some.inj e))]; exact ho
set_option maxRecDepth 100000 in
set_option maxHeartbeats 4000000 in
theorem shaped_in (F : Fence) (hFw : Hid (F = FW none)) (hd : F.depth = none) (hro : F.round = none) (h58 : F.fn 62) (h81 : F.fn 104) (h82 : F.fn 105) (h132 : F.fn 163) (h133 : F.fn 164)
    (call : Caller) (hS : Hid (Sound Tryz.prog call)) (n : Nat) (hn : 5 ≤ n) (w : World) (k : Int) (s : ByteArray) (st en : Int) (kv : Value) (T : Tr) (m : PV) (hN : T.pre.length ≤ 4611686018427387904)
    (hrep : Hid (Rep (fun b _ => b < w.heap.size) w (nodeV k s st en kv) T.pv)) (hwf : Hid T.wf) (hQ : Hid (∀ t ∈ T.pre, totalR call m t = true)) (b : Bool) (hfold : Hid (foldR call m true T.pre = some b))
    (c81 : ∀ (n : Nat) (w : World), CallsIn F n Tryz.prog 104 #[] w fun e w' => ∃ r, e = .returned (.map (some r)) ∧ Hid (Below w.heap.size w w' ∧ Rep (fun b _ => b < w'.heap.size) w' (.map (some r)) m)) :
    CallsIn F n Tryz.prog 62 #[nodeV k s st en kv] w (SPost w b) := by
  have h1 : 1 ≤ n := by omega
  have hdd : ∀ k : Nat, (F.depth.isSome = true → 1 ≤ k) := fun k h => by rw [hd] at h; cases h
  have c81' : CallsIn F (n - 1) Tryz.prog 104 #[] (w.alloc (.cells #[.int .i64 k, .string s, .int .i64 st, .int .i64 en, kv] 24)) fun e w2 => ∃ r, e = .returned (.map (some r)) ∧ w2.cell? ⟨w.heap.size, 0, none⟩ = some (.int .i64 k) ∧ w2.cell? ⟨w.heap.size, 1, none⟩ = some (.string s) ∧
      w2.cell? ⟨w.heap.size, 2, none⟩ = some (.int .i64 st) ∧ w2.cell? ⟨w.heap.size, 3, none⟩ = some (.int .i64 en) ∧ w2.cell? ⟨w.heap.size, 4, none⟩ = some kv ∧ w.heap.size < w2.heap.size ∧
      Hid (Below w.heap.size w w2 ∧ Rep (fun b _ => b < w2.heap.size) w2 (.map (some r)) m) := by
    refine (c81 (n - 1) _).mono ?_
    rintro e w2 ⟨r, rfl, H⟩
    have hbl := H.out.1
    have hblk : w2.heap[w.heap.size]? = some (.cells #[.int .i64 k, .string s, .int .i64 st, .int .i64 en, kv] 24 (0, 0)) := by
      rw [hbl.block w.heap.size (by rw [World.size_alloc]; omega)]; exact heap_alloc_new' w _
    have hsz := hbl.size;rw [World.size_alloc] at hsz;refine ⟨r, rfl, by simp [World.cell?, hblk], by simp [World.cell?, hblk], by simp [World.cell?, hblk], by simp [World.cell?, hblk], by simp [World.cell?, hblk], by omega, ?_, H.out.2⟩
    exact ((Below.refl w.heap.size w).alloc (Nat.le_refl _) _).trans (hbl.mono (by rw [World.size_alloc]; omega))
  refine callsIn_of_wp_marks Tryz.func62 rfl h58 ?_ hro
  simp only [Tryz.ntmps62, List.size_toArray, List.length_cons, List.length_nil, Nat.reduceAdd, Nat.reduceSub, Array.replicate_succ, Array.replicate_zero, List.push_toArray, List.append_toArray, List.nil_append, List.cons_append, nodeV]
  gi_wp2_with (first
    | ((try refine ⟨hdd _, ?_⟩); gi_at_call 104; refine c81'.mono ?_; clear c81'; rintro e w2 ⟨r, rfl, d0, d1, d2, d3, d4, hz, H2⟩)
    | ((try refine ⟨hdd _, ?_⟩); gi_at_call 105; refine (nodes_in F h82 hro _ _ _ _ _ _ _).mono ?_; rintro e w4 ⟨rfl, rfl⟩))
  have hsz : (((w2.alloc (.cells #[.map (some r)] 122)).alloc (.cells #[.bool true] 4)).alloc (.cells #[.int .i64 k, .string s, .int .i64 st, .int .i64 en, kv] 24)).heap.size = w2.heap.size + 3 := by simp
  have hb3 : (((w2.alloc (.cells #[.map (some r)] 122)).alloc (.cells #[.bool true] 4)).alloc (.cells #[.int .i64 k, .string s, .int .i64 st, .int .i64 en, kv] 24)).heap[w2.heap.size]? = some (.cells #[.map (some r)] 122 (0, 0)) := by
    rw [heap_alloc_old' _ _ _ (by simp; omega), heap_alloc_old' _ _ _ (by simp)]; exact heap_alloc_new' w2 _
  have hb4 : (((w2.alloc (.cells #[.map (some r)] 122)).alloc (.cells #[.bool true] 4)).alloc (.cells #[.int .i64 k, .string s, .int .i64 st, .int .i64 en, kv] 24)).heap[w2.heap.size + 1]? = some (.cells #[.bool true] 4 (0, 0)) := by
    rw [heap_alloc_old' _ _ _ (by simp)]
    have := heap_alloc_new' (w2.alloc (.cells #[.map (some r)] 122)) (.cells #[.bool true] 4)
    rwa [World.size_alloc] at this
  have hbx : (((w2.alloc (.cells #[.map (some r)] 122)).alloc (.cells #[.bool true] 4)).alloc (.cells #[.int .i64 k, .string s, .int .i64 st, .int .i64 en, kv] 24)).heap[w2.heap.size + 1 + 1]? = some (.cells #[.int .i64 k, .string s, .int .i64 st, .int .i64 en, kv] 24 (0, 0)) := by
    have := heap_alloc_new' ((w2.alloc (.cells #[.map (some r)] 122)).alloc (.cells #[.bool true] 4)) (.cells #[.int .i64 k, .string s, .int .i64 st, .int .i64 en, kv] 24)
    rwa [World.size_alloc, World.size_alloc] at this
  have hold : ∀ j, j < w2.heap.size → (((w2.alloc (.cells #[.map (some r)] 122)).alloc (.cells #[.bool true] 4)).alloc (.cells #[.int .i64 k, .string s, .int .i64 st, .int .i64 en, kv] 24)).heap[j]? = w2.heap[j]? := fun j hj => by
    rw [heap_alloc_old' _ _ _ (by simp; omega), heap_alloc_old' _ _ _ (by simp; omega), heap_alloc_old' _ _ _ hj]
  have hosl : (((w2.alloc (.cells #[.map (some r)] 122)).alloc (.cells #[.bool true] 4)).alloc (.cells #[.int .i64 k, .string s, .int .i64 st, .int .i64 en, kv] 24)).os = w2.os ∧ (((w2.alloc (.cells #[.map (some r)] 122)).alloc (.cells #[.bool true] 4)).alloc (.cells #[.int .i64 k, .string s, .int .i64 st, .int .i64 en, kv] 24)).tape = w2.tape ∧
    (((w2.alloc (.cells #[.map (some r)] 122)).alloc (.cells #[.bool true] 4)).alloc (.cells #[.int .i64 k, .string s, .int .i64 st, .int .i64 en, kv] 24)).output = w2.output := ⟨rfl, rfl, rfl⟩
  obtain ⟨wl, hwl⟩ : ∃ wl, ((w2.alloc (.cells #[.map (some r)] 122)).alloc (.cells #[.bool true] 4)).alloc (.cells #[.int .i64 k, .string s, .int .i64 st, .int .i64 en, kv] 24) = wl := ⟨_, rfl⟩;rw [hwl] at hsz hb3 hb4 hbx hosl ⊢;simp only [hwl] at hold;clear hwl;have hBelow : Below w.heap.size w w2 := H2.out.1
  have hrepl : Rep (I4 wl.heap.size (w2.heap.size + 1)) wl (nodeV k s st en kv) T.pv := by
    refine hrep.out.mono (fun b x h => ⟨by omega, by omega⟩) ⟨fun b o h => cell_of_heap ?_, fun b h => ?_⟩
    · rw [hold b (by omega), hBelow.block b h]
    · rw [hold b (by omega), hBelow.block b h]
  have hmap : Rep (I4 wl.heap.size (w2.heap.size + 1)) wl (.map (some r)) m := by
    refine H2.out.2.mono (fun b x h => ⟨by omega, by omega⟩) ⟨fun b o h => cell_of_heap (hold b h), fun b h => hold b h⟩
  have hmone : m.cells = [m] := by cases hmap <;> rfl
  have hmp : ∀ W, Lies wl.heap.size (w2.heap.size + 1) wl W → Rep (I4 wl.heap.size (w2.heap.size + 1)) W (.pointer (some ⟨w2.heap.size, 0, none⟩)) (.vptr m) := by
    intro W hW;refine .vptr (fun _ => .map (some r)) (fun j p hp => ?_) (fun j p hp => ?_) (fun j p hp => ?_)
    · exact ⟨by omega, by omega⟩
    · rw [hmone] at hp;cases j with
      | zero => simp [World.cell?, hW.2 w2.heap.size (by omega) (by omega), hb3]
      | succ j => simp at hp
    · rw [hmone] at hp;cases j with
      | zero => simp at hp; subst hp; exact hmap.mono (fun _ _ h => h) hW.same
      | succ j => simp at hp
  refine wpIn_rangeFunc_ownH hro h1 (gf := 163) (lb := #[.pointer (some ⟨w2.heap.size + 1 + 1, 0, none⟩)]) rfl h132 (enters_of Tryz.func163 (by kernel_rfl) rfl)
    (nodes1_stops (Q := fun t => totalR call m t = true) F hd h132 h133 hro wl.heap.size (w2.heap.size + 1) (w2.heap.size + 1 + 1) (n - 1) wl (Nat.le_refl _) (by omega) k s st en kv T hN hbx hrepl hwf.out hQ.out)
    Kp4.trans (kp4_put (Nat.le_refl _)) (Below.refl _ _) (fun _ => rfl) (I58 call m wl.heap.size (w2.heap.size + 1) wl) (fun _ _ _ => False) (I58_own call m _ _ wl rfl (by omega)) (fun _ _ _ _ _ h _ _ => h)
    ⟨true, rfl, ⟨4, hb4⟩, ⟨Nat.le_refl _, fun _ _ _ => rfl⟩, rfl, rfl, rfl⟩ (Ax58 wl.heap.size w2.heap.size (w2.heap.size + 1) wl) (Ax58_own _ _ _ wl) ?assign ?body ?done ?stop
  case assign =>
    intro l pre x W K hI hK;obtain ⟨xk, xs, xst, xen, xkv, xn, xks, hxt, hxv, hxr⟩ := AjY x.rep
    obtain ⟨ka, kn, kc, rfl⟩ : ∃ ka kn kc, xkv = .slice ka kn kc := by
      cases xn with
      | true => rw [if_pos rfl] at hxr; cases hxr; exact ⟨_, _, _, rfl⟩
      | false => rw [if_neg (by simp)] at hxr; cases hxr; exact ⟨_, _, _, rfl⟩
    rw [hxv];dsimp only [nodeV];have HI := Lib.hid hI; clear hI;have HK := Lib.hid hK; clear hK;have HXV := Lib.hid hxv; clear hxv;have HM := Lib.hid hmp; clear hmp;have HO := Lib.hid hold; clear hold;clear hxr hxt hrepl hmap hb3 hb4 hbx hosl hBelow d0 d1 d2 d3 d4
    gi_wp2
    obtain ⟨ok, hf, ⟨t, hok⟩, hl, h4, h5, h6⟩ := HI.out;have hWsz := hl.1;have hkeep : ∀ j, j < W.heap.size → (W.alloc (.cells #[.int .i64 xk, .string xs, .int .i64 xst, .int .i64 xen, .slice ka kn kc] 24)).heap[j]? = W.heap[j]? := fun j hj => heap_alloc_old' _ _ _ hj
    have hsz' : (W.alloc (.cells #[.int .i64 xk, .string xs, .int .i64 xst, .int .i64 xen, .slice ka kn kc] 24)).heap.size = W.heap.size + 1 := by simp
    refine HK.out _ _ (keepsFrom_of (b4 := w2.heap.size + 1) (by omega) (by omega) (fun j hj _ => hkeep j hj)) (kp4_of (by omega) (fun j hj _ => hkeep j hj)) ⟨ok, hf, ⟨t, by rw [hkeep _ (by omega)]; exact hok⟩, hl.alloc (Nat.le_refl _) _, h4, h5, h6⟩
      ⟨W.heap.size, xk, xs, xst, xen, .slice ka kn kc, by omega, by omega, HXV.out, heap_alloc_new' W _, rfl, rfl, rfl, rfl, rfl⟩
  case body =>
    rintro l pre x a' W hl ⟨r', hr'⟩ ⟨ok, hf, hok, hlies, h4, h5, h6⟩ ⟨b5, xk, xs, xst, xen, xkv, hb5B, hb5, hxv, hx5, hsz5, hdf5, ht3, ht4, ht5⟩ hlt
    have hF := hFw.out;subst hF;have htot := x.ok;simp only [totalR, Bool.and_eq_true] at htot
    obtain ⟨b', hb'⟩ : ∃ b', roundF call m ok x.tr.pv = some b' := by
      cases ok with
      | true => exact Option.isSome_iff_exists.1 htot.1
      | false => exact Option.isSome_iff_exists.1 htot.2
    have hWsz := hlies.1
    have hxrep : Rep (fun j _ => j < W.heap.size ∧ j ≠ w2.heap.size + 1) W (nodeV xk xs xst xen xkv) x.tr.pv := by
      rw [← hxv];exact (x.rep.mono (fun _ _ h => h) hlies.same).mono (fun j _ h => ⟨by have := h.1; omega, h.2⟩) (Same.refl _ _)
    refine round58 hS.out ?_ hb' l _ a' W wl.heap.size w2.heap.size (w2.heap.size + 1) b5 wl hWsz (by omega) hb5 (by omega) hsz5 hdf5 ht3 ht4 ht5 hok (hmp W hlies) (vptr_of_block hx5 (fun j => ⟨hb5, by omega⟩) hxrep) ?_
    · kernel_rfl
    · intro a'' W' hok' hgr hkp hos' htp' hout';refine ⟨keepsFrom_of (b4 := w2.heap.size + 1) (by omega) hgr hkp, kp4_of hgr hkp, b', ?_, hok', hlies.kp (Nat.le_refl _) (kp4_of hgr hkp), hos'.trans h4, htp'.trans h5, hout'.trans h6⟩
      rw [List.map_append];exact (foldR_snoc call m _ _ _ _ hf).trans hb'
  case done =>
    rintro D ys W hD hys ⟨ok, hf, ⟨t, hok⟩, hlies, h4, h5, h6⟩ hK
    have hob : ok = b := by
      rw [hys, hfold.out] at hf;exact (Option.some.inj hf).symm
    subst hob;have hc : W.cell? ⟨w2.heap.size + 1, 0, none⟩ = some (.bool ok) := by simp [World.cell?, hok]
    have HB : Hid (Below w.heap.size w W) := by
      refine ⟨?_, ?_, ?_, ?_, fun j hj => ?_⟩
      · rw [h4, hosl.1]; exact hBelow.os
      · rw [h5, hosl.2.1]; exact hBelow.tape
      · rw [h6, hosl.2.2]; exact hBelow.output
      · have := hlies.1; have := hBelow.size; omega
      · rw [hlies.2 j (by omega) (by omega), hold j (by omega), hBelow.block j hj]
    have hDw : w.heap.size ≤ D := by omega
    clear hf hys hlies h4 h5 h6 hosl hBelow hold hmp hrepl hmap hb3 hb4 hbx d0 d1 d2 d3 d4 hok
    gi_wp2
    refine ⟨by simp, .inl ⟨_, _, rfl, run_takeDeferred hK, ?_⟩⟩
    refine ⟨_, results_tmp rfl _ _ _, rfl, ?_⟩
    have hg := grownBy_putObj' W D (.deferred none);refine ⟨hg.os.trans HB.out.os, hg.tape.trans HB.out.tape, hg.output.trans HB.out.output, Nat.le_trans HB.out.size hg.size, fun j hj => ?_⟩
    rw [hg.block j (by have := HB.out.size; omega) (fun e => by have := Option.some.inj e; omega)]
    exact HB.out.block j hj
  case stop =>
    rintro D c pre W _ _ h _
    exact h.elim
end Go.Abs.Z

namespace Go.Abs.Z
open Go.Proofs Go.RowKit
theorem shaped_ok : PrimOk Tryz.prog 62 pShaped := by
  intro call hS args σ r σ' hown h;refine ⟨ent58, fun n vs w G K hargs hpre => ?_⟩
  unfold pShaped at h
  split at h
  · rename_i x
    split at h
    · rename_i T hT
      split at h
      · rename_i m σm hm
        split at h
        · rename_i hc;obtain ⟨hmap, hlen, htot⟩ := hc;obtain ⟨b, hb, e⟩ := Option.map_eq_some_iff.1 h;cases e;obtain ⟨hpv, hwf⟩ := toTr_spec 300 x T hT;subst hpv;obtain ⟨v, rfl, hv⟩ := args1_of hargs;have hrep : Rep G.I w v T.pv := hv.flat (by cases T; rfl)
          have hrep' : Rep (fun b _ => b < w.heap.size) w v T.pv := hrep.mono (fun b x h => hpre.lt b x h) (Same.refl _ _)
          obtain ⟨k, s, st, en, kv, nn, ks, hTe, rfl, _⟩ := AjY hrep;obtain ⟨_, hcl⟩ := hS 104 [] [] m σm (fun p hp => by cases hp) hm
          have c81 : ∀ (n : Nat) (w : World), CallsIn (FW none) n Tryz.prog 104 #[] w fun e w' => ∃ r, e = .returned (.map (some r)) ∧ Hid (Below w.heap.size w w' ∧ Rep (fun b _ => b < w'.heap.size) w' (.map (some r)) m) := by
            intro n w;refine (hcl n #[] w ⟨fun b _ => b < w.heap.size, fun _ => none, []⟩ (fun b => b < w.heap.size) ⟨rfl, fun i p hp => by simp at hp⟩ ⟨fun b x h => h, fun b h => h, fun b tag h => (by cases h), fun id cs h => (by simp at h), rfl⟩).mono ?_
            rintro e w' ⟨v, G', rfl, hr, ha⟩
            cases m with
            | mapv ks vs =>
              obtain ⟨r, _, _, _, rfl, _⟩ := hr.mapv_inv;have hrr : Rep G'.I w' (.map (some r)) (.mapv ks vs) := hr.rep (by simp) (by simp) (by simp)
              exact ⟨r, rfl, ⟨ha.os, ha.tape, ha.output, ha.grow, fun k hk => ha.keep k hk⟩, hrr.mono (fun b x h => ha.lt b x h) (Same.refl _ _)⟩
            | _ => simp [isMap] at hmap
          have hmain := shaped_in (FW none) rfl rfl rfl trivial trivial trivial trivial trivial call hS (n + 5) (by omega) w k s st en kv T m hlen hrep' hwf (fun t ht => List.all_eq_true.1 htot t ht) b hb c81
          refine callsIn_FW (hmain.mono ?_)
          rintro e w' ⟨rfl, hbel⟩
          exact ⟨_, G, rfl, .one (.inl (.bool b)), aft_below hpre hbel⟩
        · cases h
      · cases h
    · cases h
  · cases h
def pPrefix : Prim := fun _ xs σ => match xs with
  | [.str s, .str p] => some (.bool (Lib.hasPrefix s p), σ)
  | _ => none
theorem ent170 : AzB Tryz.prog 13 := ⟨Tryz.f13, Tryz.func13, by kernel_rfl, by kernel_rfl⟩
theorem prefix_ok : PrimOk Tryz.prog 13 pPrefix := by
  intro call hSc args σ r σ' hown h;refine ⟨ent170, fun n vs w G K hargs hpre => ?_⟩
  unfold pPrefix at h
  split at h
  · rename_i s c;cases h;obtain ⟨v, u, rfl, hv, hu⟩ := args2_of hargs;obtain ⟨t, rfl, rfl⟩ := hv.Az1;obtain ⟨x, rfl, rfl⟩ := hu.Az1;refine AzQ ((Tryz.strings_HasPrefix t x w).mono ?_)
    rintro e w' ⟨rfl, rfl⟩
    exact ⟨_, G, rfl, .one (.inl (.bool _)), aft_below hpre (Below.refl _ _)⟩
  · cases h
noncomputable def prims (f : FuncId) : Option Prim :=
  cond (Nat.beq f 189) (some pJoin) (cond (Nat.beq f 14) (some pRepeat) (cond (Nat.beq f 38) (some pWrite) (cond (Nat.beq f 40) (some pString) (cond (Nat.beq f 62) (some pShaped) (cond (Nat.beq f 13) (some pPrefix) none)))))
theorem prims_ok : ∀ f g, prims f = some g → PrimOk Tryz.prog f g := by
  intro f g h;unfold prims at h;cases h1 : Nat.beq f 189 with
  | true => rw [h1] at h; cases h; rw [Nat.eq_of_beq_eq_true h1]; exact join_ok
  | false =>
    rw [h1] at h;cases h2 : Nat.beq f 14 with
    | true => rw [h2] at h; cases h; rw [Nat.eq_of_beq_eq_true h2]; exact repeat_ok
    | false =>
      rw [h2] at h;cases h3 : Nat.beq f 38 with
      | true => rw [h3] at h; cases h; rw [Nat.eq_of_beq_eq_true h3]; exact write_ok
      | false =>
        rw [h3] at h;cases h4 : Nat.beq f 40 with
        | true => rw [h4] at h; cases h; rw [Nat.eq_of_beq_eq_true h4]; exact string_ok
        | false =>
          rw [h4] at h;cases h5 : Nat.beq f 62 with
          | true => rw [h5] at h; cases h; rw [Nat.eq_of_beq_eq_true h5]; exact shaped_ok
          | false =>
            rw [h5] at h;cases h6 : Nat.beq f 13 with
            | true => rw [h6] at h; cases h; rw [Nat.eq_of_beq_eq_true h6]; exact prefix_ok
            | false => rw [h6] at h; cases h
noncomputable def run (n : Nat) : Caller := callK pur prims tab n
theorem run_sound (n : Nat) : Sound Tryz.prog (run n) := callK_sound mixed tabOk prims_ok n
end Go.Abs.Z
