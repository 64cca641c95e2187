/- A part of the proof: G3. -/
import Derived.Test.YtaedbcepkgdboaaGreatDoorGa
import Derived.Test.YtaedbcepkgdboaaGreatDoorHa

set_option linter.unusedVariables false
set_option linter.unusedSimpArgs false
namespace Go.Abs.Z
open Go.Proofs Go.RowKit
set_option linter.unusedVariables false
def Hk.pv (h : Hk) : PV := .agg [N h.fr, N h.to, accD 1 (h.new.map PV.str)]
def Row {α : Type} (sz : Nat) (f : α → PV) (v : PV) (l : List α) : Prop := (v = .nils ∧ l = []) ∨ v = .slice false sz (l.map f)
section
variable {α : Type} {sz : Nat} {f : α → PV} {v : PV} {l : List α}
theorem Row.free (h : Row sz f v l) : v.free = true := by rcases h with ⟨rfl, _⟩ | rfl <;> rfl
theorem Row.flat (h : Row sz f v l) : v.flat = true := by rcases h with ⟨rfl, _⟩ | rfl <;> rfl
theorem Row.disown (h : Row sz f v l) : v.disown = v := by rcases h with ⟨rfl, _⟩ | rfl <;> rfl
theorem Row.own0 (h : Row sz f v l) : v.own0 = v := by rcases h with ⟨rfl, _⟩ | rfl <;> rfl
theorem Row.one (h : Row sz f v l) : v.one = true := by rcases h with ⟨rfl, _⟩ | rfl <;> rfl
theorem Row.flat0 (h : Row sz f v l) : v.flat0 = true := by rcases h with ⟨rfl, _⟩ | rfl <;> rfl
theorem mv_row (h : Row sz f v l) : semP .mv [v] = some [some v] := mv_of h.free h.disown
theorem len_row (h : Row sz f v l) : semP (.len false) [v] = some [some (.int .i64 (l.length : Nat))] := by
  rcases h with ⟨rfl, rfl⟩ | rfl
  · rfl
  · simp [semP, lenV]
theorem idx_row (h : Row sz f v l) (j : Nat) {a : α} (hg : l[j]? = some a) : semP (.idx sz) [v, .int .i64 (j : Nat)] = some [some (.vptr (f a))] := by
  rcases h with ⟨rfl, rfl⟩ | rfl
  · simp at hg
  · have : (l.map f)[((j : Nat) : Int).toNat]? = some (f a) := by rw [Int.toNat_natCast, List.getElem?_map, hg]; rfl
    show (if _ then _ else _ : Option PV).map _ = _
    rw [if_pos ⟨rfl, by omega⟩, this]; rfl
theorem row_vsl (h : Row sz f v l) {a b : Nat} (hab : a ≤ b) (hb : b ≤ l.length) : ∃ v', semP (.vsl sz true true) [v, N a, N b] = some [some v'] ∧ Row sz f v' ((l.drop a).take (b - a)) := by
  rcases h with ⟨rfl, rfl⟩ | rfl
  · have hb' : b = 0 := by simpa using hb
    have ha : a = 0 := by omega
    subst hb' ha
    exact ⟨.nils, rfl, .inl ⟨rfl, rfl⟩⟩
  · refine ⟨.slice false sz (((l.map f).drop a).take (b - a)), ?_, .inr (by rw [List.map_take, List.map_drop])⟩
    simp only [semP, if_true, cutB]
    rw [if_pos (by simp only [List.length_map]; omega)]
    simp
theorem row_vsl1 (h : Row sz f v l) {a : Nat} (ha : a ≤ l.length) : ∃ v', semP (.vsl sz true false) [v, N a] = some [some v'] ∧ Row sz f v' (l.drop a) := by
  rcases h with ⟨rfl, rfl⟩ | rfl
  · have ha' : a = 0 := by simpa using ha
    subst ha'
    exact ⟨.nils, rfl, .inl ⟨rfl, rfl⟩⟩
  · refine ⟨.slice false sz ((l.map f).drop a), ?_, .inr (by rw [List.map_drop])⟩
    simp only [semP, if_true, cutB]
    rw [if_pos (by simp only [List.length_map]; omega)]
    simp
    rw [List.take_of_length_le (by simp)]
end
theorem row_strs (l : List Str) : Row 1 PV.str (.slice false 1 (l.map PV.str)) l := .inr rfl
theorem row_acc {α : Type} {f : α → PV} (sz : Nat) (l : List α) : Row sz f (accD sz (l.map f)) l := by
  cases l with
  | nil => exact .inl ⟨rfl, rfl⟩
  | cons a l => exact .inr rfl
abbrev RowS : PV → List Str → Prop := Row 1 PV.str
abbrev RowH : PV → List Hk → Prop := Row 3 Hk.pv
theorem sub_nat (j m : Nat) (h : m ≤ j) (hj : j < 4611686018427387904) : semP (.bin .sub 0) [.int .i64 (j : Nat), .int .i64 (m : Nat)] = some [some (.int .i64 ((j - m : Nat) : Int))] := by
  apply sub_of
  simp [IntKind.wrap, IntKind.bits, IntKind.signed]; omega
theorem sub_one0 {a : Nat} (h : a = 0) : semP (.bin .sub 0) [N a, .int .i64 1] = some [some (.int .i64 (-1))] := by subst h; rfl
theorem min_nat (a b : Nat) : semP .min [.int .i64 (a : Nat), .int .i64 (b : Nat)] = some [some (.int .i64 ((min a b : Nat) : Int))] := by
  simp only [semP, minV, Option.map_some]
  congr 4
  split <;> omega
theorem max_nat (a b : Nat) : semP .max [.int .i64 (a : Nat), .int .i64 (b : Nat)] = some [some (.int .i64 ((max a b : Nat) : Int))] := by
  simp only [semP, maxV, Option.map_some]
  congr 4
  split <;> omega
theorem app_map {α : Type} (f : α → PV) (sz : Nat) {l : List α} {a : α} {o : Bool} (h : l.length + 1 ≤ maxRow) (h1 : (f a).ones = true) : semP (.app sz) [.slice true sz (l.map f), .slice o sz [f a]] = some [some (.slice true sz ((l ++ [a]).map f)), some (.slice false sz (l.map f))] := by
  have := app_lit (size := sz) (o' := o) (es := l.map f) (xs := [f a]) (by simpa using h) rfl (by simp [h1])
  rw [this]; simp
theorem idx_map {α : Type} (f : α → PV) {o : Bool} {s : Nat} {l : List α} {a : α} (j : Nat) (h : l[j]? = some a) : semP (.idx s) [.slice o s (l.map f), .int .i64 (j : Nat)] = some [some (.vptr (f a))] := by
  have : (l.map f)[((j : Nat) : Int).toNat]? = some (f a) := by rw [Int.toNat_natCast, List.getElem?_map, h]; rfl
  show (if _ then _ else _ : Option PV).map _ = _
  rw [if_pos ⟨rfl, by omega⟩, this]; rfl
theorem idx_arr {id gen off len sz : Nat} (j : Nat) (h : j < len) : semP (.idx sz) [.arr id gen off len sz, .int .i64 (j : Nat)] = some [some (.aptr id gen sz (off + j) 0)] := by
  show (if _ then _ else _ : Option PV).map _ = _
  rw [if_pos ⟨rfl, by omega⟩]
  simp
theorem vsl_arr {id gen off len sz : Nat} (j : Nat) (h : j ≤ len) : semP (.vsl sz false true) [.arr id gen off len sz, .int .i64 (j : Nat)] = some [some (.arr id gen off j sz)] := by
  simp only [semP, if_true, cutB]
  rw [if_pos (by omega)]
  simp
theorem ldfo_hk {d : Nat} {a b : PV} {z : Nat} {es : List PV} : semP (.ldfo d) [.lref d 2, .agg [a, b, accP z es]] = some [some (accP z es), some (.agg [a, b, accD z es])] := by
  cases es <;> simp [semP, upd, accP, accD, PV.cells, PV.disown]
theorem stfo_hk {d : Nat} {a b o : PV} {z : Nat} {es : List PV} : semP (.stfo d) [.lref d 2, .agg [a, b, o], accP z es] = some [some (.agg [a, b, accP z es]), some (accD z es)] := by
  cases es <;> simp [semP, upd, accP, accD, PV.cells, PV.disown]
theorem stfo_stf {d : Nat} {a b : PV} {z : Nat} {es : List PV} (n : Nat) : semP (.stf d 1) [.lref d 1, .agg [a, b, accP z es], N n] = some [some (.agg [a, N n, accP z es])] := by
  simp [semP, upd, PV.cells, PV.disown, PV.okc, PV.flat, PV.ones, PV.one]
theorem ldl_acchk {a b : Nat} {z : Nat} {es : List PV} : semP (.ldl 0 3 true) [.agg [N a, N b, accP z es]] = some [some (.agg [N a, N b, accD z es])] := by
  cases es <;> simp [semP, subB, sub, accP, accD, PV.disown, PV.own0, PV.flat]
theorem acc1 (l : List Str) : (accD 1 (l.map PV.str)).flat = true ∧ (accD 1 (l.map PV.str)).own0 = accD 1 (l.map PV.str) ∧ (accD 1 (l.map PV.str)).isAgg = false ∧ (accD 1 (l.map PV.str)).isSelf = false ∧ (accD 1 (l.map PV.str)).one = true := by
  cases l <;> exact ⟨rfl, rfl, rfl, rfl, rfl⟩
theorem hk_disown (h : Hk) : h.pv.disown = h.pv := by
  show PV.agg [N h.fr, N h.to, (accD 1 (h.new.map PV.str)).own0] = _
  rw [(acc1 h.new).2.1]; rfl
theorem hk_ones (h : Hk) : h.pv.ones = true := by
  show (PV.one (N h.fr) && (PV.one (N h.to) && (PV.one (accD 1 (h.new.map PV.str)) && true))) = true
  rw [(acc1 h.new).2.2.2.2]; rfl
theorem mv_tup (vs : List PV) : semP .mv [.tuple vs] = some [some (.tuple vs)] := mv_of rfl rfl
theorem fa_hk0 (h : Hk) : semP (.fa 0 1 false) [.vptr h.pv] = some [some (.vptr (N h.fr))] := rfl
theorem fa_hk1 (h : Hk) : semP (.fa 1 1 false) [.vptr h.pv] = some [some (.vptr (N h.to))] := rfl
theorem fa_hk (h : Hk) : semP (.fa 2 1 false) [.vptr h.pv] = some [some (.vptr (accD 1 (h.new.map PV.str)))] := by
  simp [semP, faV, sub, Hk.pv, PV.cells, (acc1 h.new).2.2.1, (acc1 h.new).2.2.2.1]
theorem ld_hk (h : Hk) {σ : Sto} : semR (.ld 3 true) [.vptr h.pv] σ = some [some h.pv] := ld_of rfl rfl (hk_disown h)
theorem ld_accd (sz : Nat) (es : List PV) {σ : Sto} : semR (.ld 1 false) [.vptr (accD sz es)] σ = some [some (accD sz es)] := by cases es <;> rfl
theorem sti_hk (h : Hk) : semP (.sti 3) [.hole 3, h.pv] = some [some (.vptr h.pv)] := by
  show (if _ then _ else _) = _
  rw [if_pos ⟨rfl, rfl, rfl, hk_ones h⟩, hk_disown]
theorem len_map (o : Bool) (sz : Nat) {α : Type} (f : α → PV) (l : List α) : semP (.len false) [.slice o sz (l.map f)] = some [some (.int .i64 (l.length : Nat))] := by simp [semP, lenV]
theorem app_accm {α : Type} (f : α → PV) (sz : Nat) (l : List α) (a : α) (o : Bool) (h : l.length + 1 ≤ maxRow) (h1 : (f a).ones = true) : semP (.app sz) [accP sz (l.map f), .slice o sz [f a]] = some [some (accP sz ((l ++ [a]).map f)), some (accD sz (l.map f))] := by
  have := app_acc (size := sz) (es := l.map f) (xs := [f a]) (o := o) (by simpa using h) ⟨rfl, by simp [h1]⟩
  rw [this]; simp
theorem ldl_accbsl {a b : Nat} {l : List Str} : semP (.bsl 3) [.agg [N a, N b, accD 1 (l.map PV.str)]] = some [some (.slice true 3 [.agg [N a, N b, accD 1 (l.map PV.str)]])] := by
  have := hk_disown ⟨a, b, l⟩
  have h : semP (.bsl 3) [(⟨a, b, l⟩ : Hk).pv] = some [some (.slice true 3 [(⟨a, b, l⟩ : Hk).pv.disown])] := rfl
  rw [this] at h
  exact h
theorem build_hk (a : Nat) : semP (.build [.int .i64 0, .int .i64 0, .nils] [(0, 1)]) [N a] = some [some (.agg [N a, N 0, accP 1 (([] : List Str).map PV.str)])] := rfl
theorem stfo_stl {c : PV} {a b : Nat} {l : List Str} (h : c.cells.length = 3 := by rfl) (hc : c.isAgg = true := by rfl) : semP (.stl 0 3) [c, .agg [N a, N b, accP 1 (l.map PV.str)]] = some [some (.agg [N a, N b, accD 1 (l.map PV.str)])] := by
  cases c with
  | agg cs =>
    have h' : cs.length = 3 := h
    have e : ([N a, N b, accP 1 (l.map PV.str)].map PV.own0) = [N a, N b, accD 1 (l.map PV.str)] := by cases l <;> rfl
    have e1 : (PV.agg [N a, N b, accP 1 (l.map PV.str)]).ones = true := by cases l <;> rfl
    show (if _ then _ else _) = _
    rw [if_pos ⟨rfl, rfl, e1⟩]
    simp only [PV.disown, e, upd, PV.cells, List.length_cons, List.length_nil]
    rw [if_pos (by omega)]
    simp [h']
  | aggr cs =>
    have h' : cs.length = 3 := h
    have e : ([N a, N b, accP 1 (l.map PV.str)].map PV.own0) = [N a, N b, accD 1 (l.map PV.str)] := by cases l <;> rfl
    have e1 : (PV.agg [N a, N b, accP 1 (l.map PV.str)]).ones = true := by cases l <;> rfl
    show (if _ then _ else _) = _
    rw [if_pos ⟨rfl, rfl, e1⟩]
    simp only [PV.disown, e, upd, PV.cells, List.length_cons, List.length_nil]
    rw [if_pos (by omega)]
    simp [h']
  | _ => cases hc
end Go.Abs.Z
