/- A part of the proof: P1. -/
import Derived.Test.YtfahhgdeociahaaGreatDoorTd
import Derived.Test.YtfahhgdeociahaaGreatDoorSa

set_option linter.unusedVariables false
set_option linter.unusedSimpArgs false
namespace Go.Abs.Z
open Go.Proofs Go.RowKit
theorem ext_below {G : Gh} {K : Nat → Prop} {w w' : World} {σ : Sto} (hpre : Pre K G w σ) (hb : Below w.heap.size w w') : Ext (fun _ => False) G G w w' :=
  ⟨fun _ _ h => h, ⟨fun b o h => cell_of_heap (hb.block b (hpre.lt b _ h)), fun b h => hb.block b (hpre.lt b _ h)⟩, Bl.le_refl _, fun id hid hX g => rfl, fun b tag h _ => ⟨h, hb.block b (hpre.own b tag h).1, fun _ h => h⟩⟩
theorem BqK {G : Gh} {K : Nat → Prop} {w w' : World} {σ : Sto} (hpre : Pre K G w σ) (hb : Below w.heap.size w w') : Aft K G w σ G w' := by
  have he := ext_below hpre hb
  exact ⟨fun b h => hb.block b (hpre.Klt b h), he.same, fun _ _ h => h, fun _ _ h => .inl h, fun b x h => Nat.lt_of_lt_of_le (hpre.lt b x h) hb.size,
    fun b tag h => ⟨Nat.lt_of_lt_of_le (hpre.own b tag h).1 hb.size, (hpre.own b tag h).2⟩, hb.size, Bl.le_refl _, hb.os, hb.tape, hb.output, fun id cs h => (hpre.obj id cs h).ext he (fun _ h => h), hpre.len, hpre.abl⟩
def strsOf : List PV → Option (List (List UInt8))
  | [] => some []
  | .str s :: r => (strsOf r).map (s :: ·)
  | _ => none
def pJoin : Prim := fun _ xs σ => match xs with
  | [.nils, .str _] => some (.str [], σ)
  | [.slice _ size es, .str sep] => if size = 1 then match strsOf es with
      | some l => if l.length ≤ 140737488355328 ∧ (Lib.join l sep).length ≤ 140737488355328 then some (.str (Lib.join l sep), σ) else none
      | none => none
    else none
  | _ => none
theorem BqX : ∀ (es : List PV) (l : List (List UInt8)), strsOf es = some l → es = l.map PV.str
  | [], l, h => by cases h; rfl
  | e :: es, l, h => by
    cases e with
    | str s =>
      simp only [strsOf] at h;obtain ⟨r, hr, rfl⟩ := Option.map_eq_some_iff.1 h;rw [BqX es r hr]; rfl
    | _ => simp [strsOf] at h
theorem AvF {f : FuncId} {vs : Array Value} {w : World} {n : Nat} {R : Ending → World → Prop} (h : Calls Tryz.prog f vs w R) : CallsIn (FW none) n Tryz.prog f vs w R := callsIn_wide.2 h
theorem args2_of {I : Imm} {bl : Bl} {w : World} {vs : Array Value} {p q : PV} (h : AxE I bl w vs.toList [p, q]) : ∃ v u, vs = #[v, u] ∧ RepT I bl w v p ∧ RepT I bl w u q := by
  obtain ⟨v, h1, h2⟩ := h.2 0 p rfl;obtain ⟨u, h3, h4⟩ := h.2 1 q rfl;have hl := h.1
  match vs, hl, h1, h3 with
  | ⟨[a, b]⟩, _, h1, h3 =>
    simp at h1 h3;subst h1 h3;exact ⟨a, b, rfl, h2, h4⟩
theorem AwW {I : Imm} {bl : Bl} {w : World} (l : List UInt8) : RepT I bl w (.string ⟨l.toArray⟩) (.str l) := by
  have := Rep.str (I := I) (w := w) ⟨l.toArray⟩;exact .one (.inl (by simpa using this))
theorem ent20 : BqO Tryz.prog 20 := ⟨Tryz.f20, Tryz.func20, by kernel_rfl, by kernel_rfl⟩
theorem join_ok : PrimOk Tryz.prog 20 pJoin := by
  intro call hSc args σ r σ' hown h;refine ⟨ent20, fun n vs w G K hargs hpre => ?_⟩
  unfold pJoin at h
  split at h
  · rename_i sep;cases h;obtain ⟨v, u, rfl, hv, hu⟩ := args2_of hargs;have := hv.AjO;subst this;obtain ⟨s, rfl, _⟩ := hu.AzB;refine AvF ((Tryz.strings_Join_none none 0 s w).mono ?_)
    rintro e w' ⟨rfl, rfl⟩
    exact ⟨_, G, rfl, AwW [], BqK hpre (Below.refl _ _)⟩
  · rename_i own size es sep
    split at h
    · rename_i hsz;subst hsz
      split at h
      · rename_i l hl
        split at h
        · rename_i hb;cases h;have hes := BqX es l hl;subst hes;obtain ⟨v, u, rfl, hv, hu⟩ := args2_of hargs;obtain ⟨s, rfl, rfl⟩ := hu.AzB;obtain ⟨a, len, cap, cv, rfl, rfl, hcap, hspot, hsize, hI, hc, hr⟩ := hv.AzS;cases hll : l with
          | nil =>
            subst hll;refine AvF ((Tryz.strings_Join_none (some a) cap s w).mono ?_)
            rintro e w' ⟨rfl, rfl⟩
            exact ⟨_, G, rfl, AwW [], BqK hpre (Below.refl _ _)⟩
          | cons x0 r0 =>
            have hne : l.map PV.str ≠ [] := by rw [hll]; simp
            have hsp := hspot hne;obtain ⟨ab, ao, asp⟩ := a;dsimp only at hsp;subst hsp
            have hcell : ∀ (j : Nat) (x : ByteArray), (l.map fun y => (⟨y.toArray⟩ : ByteArray))[j]? = some x → w.cell? ⟨ab, ao + j, none⟩ = some (.string x) := by
              intro j x hx;rw [List.getElem?_map] at hx
              obtain ⟨y, hy, rfl⟩ := Option.map_eq_some_iff.1 hx;have he : (l.map PV.str)[j]? = some (.str y) := by rw [List.getElem?_map, hy]; rfl
              have h1 := hc j (.str y) 0 (.str y) he rfl;have h2 := hr j (.str y) 0 (.str y) he rfl;have h3 := (RepT.one (bl := G.bl) (.inl h2)).AzB;obtain ⟨t, ht, hty⟩ := h3;rw [ht] at h1;simp only [Nat.mul_one, Nat.add_zero] at h1;rw [h1];congr 2;cases t with
              | mk d =>
                cases d with
                | mk dl =>
                  have hty2 : dl = y := hty;rw [hty2]
            have hbk : ab < w.heap.size := by
              have he : (l.map PV.str)[0]? = some (.str x0) := by rw [hll]; rfl
              exact hpre.lt _ _ (hI 0 (.str x0) 0 (.str x0) he rfl)
            have hmap : (l.map fun y => (⟨y.toArray⟩ : ByteArray)).map (fun x => x.data.toList) = l := by
              rw [List.map_map];have hid : ((fun x : ByteArray => x.data.toList) ∘ fun y : List UInt8 => (⟨y.toArray⟩ : ByteArray)) = id := by funext y; rfl
              rw [hid, List.map_id]
            have hlen : (l.map fun y => (⟨y.toArray⟩ : ByteArray)).length = (l.map PV.str).length := by simp
            rw [← hll];have := Tryz.strings_Join ab ao cap (l.map fun y => (⟨y.toArray⟩ : ByteArray)) s w hcell hbk (by simpa using hb.1) (by simpa using hcap) (by rw [hmap]; exact hb.2)
            rw [hmap, hlen] at this;refine AvF (this.mono ?_)
            rintro e w' ⟨rfl, hbel⟩
            exact ⟨_, G, rfl, AwW _, BqK hpre hbel⟩
        · cases h
      · cases h
    · cases h
  · cases h
end Go.Abs.Z
