/- A part of the proof: G3 G4. -/
import Derived.Test.YtakhbjefcjmelaaGreatDoorGa
import Derived.Test.YtakhbjefcjmelaaGreatDoorHa

set_option linter.unusedVariables false
set_option linter.unusedSimpArgs false
namespace Go.Abs.Z
open Go.Proofs Go.RowKit
set_option linter.unusedVariables false
def Hk.pv (h : Hk) : PV := .agg [N h.fr, N h.to, accD 1 (h.new.map PV.str)]
def Row {α : Type} (sz : Nat) (f : α → PV) (v : PV) (l : List α) : Prop := (v = .nils ∧ l = []) ∨ v = .slice false sz (l.map f)
section
variable {α : Type} {sz : Nat} {f : α → PV} {v : PV} {l : List α}
theorem Row.free (h : Row sz f v l) : v.free = true := by rcases h with ⟨rfl, _⟩ | rfl <;> rfl
theorem Row.flat (h : Row sz f v l) : v.flat = true := by rcases h with ⟨rfl, _⟩ | rfl <;> rfl
theorem Row.disown (h : Row sz f v l) : v.disown = v := by rcases h with ⟨rfl, _⟩ | rfl <;> rfl
theorem Row.own0 (h : Row sz f v l) : v.own0 = v := by rcases h with ⟨rfl, _⟩ | rfl <;> rfl
theorem Row.one (h : Row sz f v l) : v.one = true := by rcases h with ⟨rfl, _⟩ | rfl <;> rfl
theorem Row.flat0 (h : Row sz f v l) : v.flat0 = true := by rcases h with ⟨rfl, _⟩ | rfl <;> rfl
theorem mv_row (h : Row sz f v l) : semP .mv [v] = some [some v] := mv_of h.free h.disown
theorem len_row (h : Row sz f v l) : semP (.len false) [v] = some [some (.int .i64 (l.length : Nat))] := by
  rcases h with ⟨rfl, rfl⟩ | rfl
  · rfl
  · simp [semP, lenV]
theorem idx_row (h : Row sz f v l) (j : Nat) {a : α} (hg : l[j]? = some a) : semP (.idx sz) [v, .int .i64 (j : Nat)] = some [some (.vptr (f a))] := by
  rcases h with ⟨rfl, rfl⟩ | rfl
  · simp at hg
  · have : (l.map f)[((j : Nat) : Int).toNat]? = some (f a) := by rw [Int.toNat_natCast, List.getElem?_map, hg]; rfl
    show (if _ then _ else _ : Option PV).map _ = _
    rw [if_pos ⟨rfl, by omega⟩, this]; rfl
theorem row_vsl (h : Row sz f v l) {a b : Nat} (hab : a ≤ b) (hb : b ≤ l.length) : ∃ v', semP (.vsl sz true true) [v, N a, N b] = some [some v'] ∧ Row sz f v' ((l.drop a).take (b - a)) := by
  rcases h with ⟨rfl, rfl⟩ | rfl
  · have hb' : b = 0 := by simpa using hb
    have ha : a = 0 := by omega
    subst hb' ha
    exact ⟨.nils, rfl, .inl ⟨rfl, rfl⟩⟩
  · refine ⟨.slice false sz (((l.map f).drop a).take (b - a)), ?_, .inr (by rw [List.map_take, List.map_drop])⟩
    simp only [semP, if_true, cutB]
    rw [if_pos (by simp only [List.length_map]; omega)]
    simp
theorem row_vsl1 (h : Row sz f v l) {a : Nat} (ha : a ≤ l.length) : ∃ v', semP (.vsl sz true false) [v, N a] = some [some v'] ∧ Row sz f v' (l.drop a) := by
  rcases h with ⟨rfl, rfl⟩ | rfl
  · have ha' : a = 0 := by simpa using ha
    subst ha'
    exact ⟨.nils, rfl, .inl ⟨rfl, rfl⟩⟩
  · refine ⟨.slice false sz ((l.map f).drop a), ?_, .inr (by rw [List.map_drop])⟩
    simp only [semP, if_true, cutB]
    rw [if_pos (by simp only [List.length_map]; omega)]
    simp
    rw [List.take_of_length_le (by simp)]
end
theorem row_strs (l : List Str) : Row 1 PV.str (.slice false 1 (l.map PV.str)) l := .inr rfl
abbrev RowS : PV → List Str → Prop := Row 1 PV.str
theorem sub_nat (j m : Nat) (h : m ≤ j) (hj : j < 4611686018427387904) : semP (.bin .sub 0) [.int .i64 (j : Nat), .int .i64 (m : Nat)] = some [some (.int .i64 ((j - m : Nat) : Int))] := by
  apply sub_of
  simp [IntKind.wrap, IntKind.bits, IntKind.signed]; omega
theorem min_nat (a b : Nat) : semP .min [.int .i64 (a : Nat), .int .i64 (b : Nat)] = some [some (.int .i64 ((min a b : Nat) : Int))] := by
  simp only [semP, minV, Option.map_some]
  congr 4
  split <;> omega
theorem app_map {α : Type} (f : α → PV) (sz : Nat) {l : List α} {a : α} {o : Bool} (h : l.length + 1 ≤ maxRow) (h1 : (f a).ones = true) : semP (.app sz) [.slice true sz (l.map f), .slice o sz [f a]] = some [some (.slice true sz ((l ++ [a]).map f)), some (.slice false sz (l.map f))] := by
  have := app_lit (size := sz) (o' := o) (es := l.map f) (xs := [f a]) (by simpa using h) rfl (by simp [h1])
  rw [this]; simp
theorem idx_map {α : Type} (f : α → PV) {o : Bool} {s : Nat} {l : List α} {a : α} (j : Nat) (h : l[j]? = some a) : semP (.idx s) [.slice o s (l.map f), .int .i64 (j : Nat)] = some [some (.vptr (f a))] := by
  have : (l.map f)[((j : Nat) : Int).toNat]? = some (f a) := by rw [Int.toNat_natCast, List.getElem?_map, h]; rfl
  show (if _ then _ else _ : Option PV).map _ = _
  rw [if_pos ⟨rfl, by omega⟩, this]; rfl
theorem idx_arr {id gen off len sz : Nat} (j : Nat) (h : j < len) : semP (.idx sz) [.arr id gen off len sz, .int .i64 (j : Nat)] = some [some (.aptr id gen sz (off + j) 0)] := by
  show (if _ then _ else _ : Option PV).map _ = _
  rw [if_pos ⟨rfl, by omega⟩]
  simp
theorem vsl_arr {id gen off len sz : Nat} (j : Nat) (h : j ≤ len) : semP (.vsl sz false true) [.arr id gen off len sz, .int .i64 (j : Nat)] = some [some (.arr id gen off j sz)] := by
  simp only [semP, if_true, cutB]
  rw [if_pos (by omega)]
  simp
theorem len_map (o : Bool) (sz : Nat) {α : Type} (f : α → PV) (l : List α) : semP (.len false) [.slice o sz (l.map f)] = some [some (.int .i64 (l.length : Nat))] := by simp [semP, lenV]
end Go.Abs.Z

namespace Go.Abs.Z
open Go.Proofs Go.RowKit
set_option linter.unusedVariables false
structure Hg where
  fr : Int
  to : Int
  nv : PV
  nw : List Str
  ok : RowS nv nw
def Hg.pv (h : Hg) : PV := .agg [.int .i64 h.fr, .int .i64 h.to, h.nv]
structure Hn where
  fr : Nat
  to : Nat
  nv : PV
  nw : List Str
  ok : RowS nv nw
def Hn.g (h : Hn) : Hg := ⟨h.fr, h.to, h.nv, h.nw, h.ok⟩
def Hn.pv (h : Hn) : PV := .agg [N h.fr, N h.to, h.nv]
abbrev RowG : PV → List Hg → Prop := Row 3 Hg.pv
abbrev RowN : PV → List Hn → Prop := Row 3 Hn.pv
theorem Row.isAgg {α : Type} {sz : Nat} {f : α → PV} {v : PV} {l : List α} (h : Row sz f v l) : v.isAgg = false ∧ v.isSelf = false ∧ v.cells = [v] := by rcases h with ⟨rfl, _⟩ | rfl <;> exact ⟨rfl, rfl, rfl⟩
theorem Hg.disown (h : Hg) : h.pv.disown = h.pv := by
  show PV.agg [.int .i64 h.fr, .int .i64 h.to, h.nv.own0] = _
  rw [h.ok.own0]; rfl
theorem Hg.ones (h : Hg) : h.pv.ones = true := by
  show (PV.one (.int .i64 h.fr) && (PV.one (.int .i64 h.to) && (PV.one h.nv && true))) = true
  rw [h.ok.one]; rfl
theorem fa_hg0 (h : Hg) : semP (.fa 0 1 false) [.vptr h.pv] = some [some (.vptr (.int .i64 h.fr))] := rfl
theorem fa_hg1 (h : Hg) : semP (.fa 1 1 false) [.vptr h.pv] = some [some (.vptr (.int .i64 h.to))] := rfl
theorem fa_hg (h : Hg) : semP (.fa 2 1 false) [.vptr h.pv] = some [some (.vptr h.nv)] := by
  simp [semP, faV, sub, Hg.pv, PV.cells, h.ok.isAgg.1, h.ok.isAgg.2.1]
theorem ld_hg (h : Hg) {σ : Sto} : semR (.ld 3 true) [.vptr h.pv] σ = some [some h.pv] := ld_of rfl rfl h.disown
theorem sti_hg (h : Hg) : semP (.sti 3) [.hole 3, h.pv] = some [some (.vptr h.pv)] := by
  show (if _ then _ else _) = _
  rw [if_pos ⟨rfl, rfl, rfl, h.ones⟩, h.disown]
theorem ld_rowv {sz : Nat} {α : Type} {f : α → PV} {v : PV} {l : List α} (h : Row sz f v l) {σ : Sto} : semR (.ld 1 false) [.vptr v] σ = some [some v] := by rcases h with ⟨rfl, _⟩ | rfl <;> rfl
theorem fa_hn0 (h : Hn) : semP (.fa 0 1 false) [.vptr h.pv] = some [some (.vptr (N h.fr))] := rfl
theorem fa_hn1 (h : Hn) : semP (.fa 1 1 false) [.vptr h.pv] = some [some (.vptr (N h.to))] := rfl
theorem fa_hn (h : Hn) : semP (.fa 2 1 false) [.vptr h.pv] = some [some (.vptr h.nv)] := fa_hg h.g
theorem ld_hn (h : Hn) {σ : Sto} : semR (.ld 3 true) [.vptr h.pv] σ = some [some h.pv] := ld_hg h.g
theorem sti_hn (h : Hn) : semP (.sti 3) [.hole 3, h.pv] = some [some (.vptr h.pv)] := sti_hg h.g
theorem row_of_nat {v : PV} {l : List Hn} (h : RowG v (l.map Hn.g)) : RowN v l := by
  rcases h with ⟨rfl, e⟩ | rfl
  · exact .inl ⟨rfl, by simpa using e⟩
  · refine .inr ?_
    rw [List.map_map]; rfl
theorem add_one63 (j : Nat) (h : j < 9223372036854775807) : semP (.bin .add 0) [.int .i64 (j : Nat), .int .i64 1] = some [some (.int .i64 ((j + 1 : Nat) : Int))] := by
  apply add_of
  simp [IntKind.wrap, IntKind.bits, IntKind.signed]; omega
end Go.Abs.Z
