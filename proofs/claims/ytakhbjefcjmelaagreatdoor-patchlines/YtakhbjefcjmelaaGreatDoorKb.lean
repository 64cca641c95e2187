/- A part of the proof: A5 A6 A7 A8. -/
import Derived.Test.YtakhbjefcjmelaaGreatDoorKa

set_option linter.unusedVariables false
set_option linter.unusedSimpArgs false
namespace Go.Abs
structure FI where
  kd : List SK
  al : List (Nat × Nat)
  keep : List Bool
  nt : Nat
  ps : List (Nat × Nat × Nat)
  bt : Option (TypeId × TypeId)
  md : List (Nat × Nat × Nat)
def FI.kind (fi : FI) (t : Nat) : SK := fi.kd.getD t .plain
def FI.alias (fi : FI) (t : Nat) : Option Nat := (fi.al.find? (·.1 == t)).map (·.2)
def FI.mode (fi : FI) (id j : Nat) : Nat := ((fi.md.find? fun x => x.1 == id && x.2.1 == j).map (·.2.2)).getD 0
def FI.entsOf (fi : FI) (m : Nat) : List Nat := (List.range fi.kd.length).filter fun t => match fi.kind t with | .ent m' _ => m' == m | _ => false
def FI.ptrs (fi : FI) (d : Nat) : List Nat := (fi.al.filter (·.2 == d)).map (·.1)
structure RG where
  ps : Option Nat
  src : List Nat
  dst : List Nat
  md : Nat
def _root_.Go.TypeDesc.isInt : TypeDesc → Bool
  | .int _ => true
  | _ => false
def isAggD : TypeDesc → Bool
  | .struct _ | .array _ _ => true
  | _ => false
def compArg (fi : FI) : Operand → Option AArg
  | .tmp t => match fi.kind t with
    | .plain | .imm | .obj => if t < fi.nt then some (.slot t) else none
    | _ => none
  | .const v => (ofVal v).map .val
  | .func f => some (.val (.func f [] []))
  | .global _ => none
def compArgs (fi : FI) : List Operand → Option (List AArg)
  | [] => some []
  | x :: xs => match compArg fi x, compArgs fi xs with
    | some a, some as => some (a :: as)
    | _, _ => none
def cellsT (P : Program) (t : TypeId) : Option (Nat × Bool) :=
  match P.info? t, P.underlying t with
  | some i, some d => some (i.size, isAggD d)
  | _, _ => none
def zeroP (P : Program) (t : TypeId) : Option PV :=
  match P.info? t with
  | some i => i.zero.bind ofVal
  | none => none
def inOrder : Nat → List (Nat × Operand) → Bool
  | _, [] => true
  | n, (i, _) :: r => i == n && inOrder (n + 1) r
def partPlaces (places : List (Nat × Nat)) : List (Nat × Operand) → Option (List (Nat × Nat))
  | [] => some []
  | (i, _) :: r => match places[i]?, partPlaces places r with
    | some p, some ps => some (p :: ps)
    | _, _ => none
def isPlain (fi : FI) (t : Nat) : Bool := decide (t < fi.nt) && (match fi.kind t with | .plain => true | _ => false)
def plainDst (fi : FI) (d : Option Nat) : Bool := match d with | some t => isPlain fi t | none => true
def mk (fi : FI) (d : Option Nat) (k : AK) (args : Option (List AArg)) (ex : List Nat := []) : Option AOp :=
  if plainDst fi d && ex.all (isPlain fi) && ex.all (fun t => d != some t) then args.map fun as => { dst := d, k, args := as, ex } else none
def compOp (P : Program) (pur : FuncId → Bool) (fi : FI) (rg : RG) (o : Oper) : Option AOp :=
  let d := o.dst
  match o.op with
  | .move x => if rg.md = 2 then mk fi d (.w .frz) (compArgs fi [x]) else match x, d with
    | .tmp s, some t => match fi.kind s with
      | .mapb keys => if isPlain fi t ∧ s < fi.nt then some { dst := d, k := .p (.mvb keys), args := .slot s :: (fi.entsOf s).map .slot, ex := [s], clr := fi.entsOf s } else none
      | _ => if rg.src.contains t then mk fi d (.p .mvo) (compArgs fi [x]) [s] else mk fi d (.p .mv) (compArgs fi [x])
    | _, _ => mk fi d (.p .mv) (compArgs fi [x])
  | .assign x => match x with
    | .tmp s => if rg.dst.contains s then mk fi d (.p .mvo) (compArgs fi [x]) [s] else mk fi d (.p .mv) (compArgs fi [x])
    | _ => mk fi d (.p .mv) (compArgs fi [x])
  | .pick c a b => mk fi d (.p .pick) (compArgs fi [c, a, b])
  | .box t x => match d, cellsT P t with
    | some s, some _ => if fi.nt ≤ s then none else match fi.kind s with
      | .box => (compArgs fi [x]).map fun as => { dst := d, k := .p .bxl, args := as, clr := fi.ptrs s }
      | .imm => (compArgs fi [x]).map fun as => { dst := d, k := .p .bx, args := as }
      | .obj => (compArgs fi [x]).map fun as => { dst := d, k := .w .bxO, args := as }
      | _ => none
    | _, _ => none
  | .alloc t => match d, cellsT P t, zeroP P t with
    | some s, some (n, _), some z => if fi.nt ≤ s then none else match fi.kind s with
      | .box => some { dst := d, k := .p (.zl z), args := [], clr := fi.ptrs s }
      | .imm => if z.cells.length = n then some { dst := d, k := .p (.zi n), args := [] } else none
      | .obj => match fi.bt with
        | some (bt, be) => if bt = t then (match z with | .agg [.nilp, .nils] => some { dst := d, k := .w (.alB t be), args := [] } | _ => none) else some { dst := d, k := .w (.alO z.cells), args := [] }
        | none => some { dst := d, k := .w (.alO z.cells), args := [] }
      | _ => none
    | _, _, _ => none
  | .build t ps => match P.underlying t, zeroP P t with
    | some (.struct fs), some (.agg z) => match fs.toList.mapM (fun f => (P.info? f.type).map fun i => (f.offset, i.size)) with
      | some places => match partPlaces places ps.toList with
        | some pl => mk fi d (.p (.build z pl)) (compArgs fi (ps.toList.map (·.2)))
        | none => none
      | none => none
    | _, _ => none
  | .buildSlice t n ps => if rg.md = 5 then (match P.underlying t with
    | some (.slice e) => match cellsT P e with
      | some _ => if n = 0 ∧ ps = #[] then mk fi d (.p .bse) (some []) else none
      | none => none
    | _ => none) else match P.underlying t with
    | some (.slice e) => match cellsT P e with
      | some (size, _) => if inOrder 0 ps.toList && ps.size == n && decide (n ≤ 1000) && decide (0 < size) && decide (size ≤ 100) && (P.info? e).any (·.zero.isSome) then mk fi d (.p (.bsl size)) (compArgs fi (ps.toList.map (·.2))) else none
      | none => none
    | _ => none
  | .load t x => match cellsT P t with
    | some (n, ag) => match x with
      | .tmp s => if fi.nt ≤ s then none else match fi.kind s with
        | .box => if 10 ≤ rg.md then (if plainDst fi d && d.isSome && ag then some { dst := d, k := .w (.ldz n (rg.md - 10)), args := [.slot s], ex := [s] } else none) else mk fi d (.p (.ldl 0 n ag)) (some [.slot s])
        | _ => match fi.alias s with
          | some b => if fi.kind b = .box then
              (if !ag && (match d with | some t => rg.src.contains t | none => false) then (if plainDst fi d then some { dst := d, k := .p (.ldfo b), args := [.slot s, .slot b], ex := [b] } else none)
              else mk fi d (.p (.ldf b n ag)) (some [.slot s, .slot b])) else none
          | none => if !ag && (match d with | some t => rg.src.contains t | none => false) then mk fi d (.w .ldo) (compArgs fi [x])
            else if rg.md = 3 then mk fi d (.p (.ldp n ag)) (compArgs fi [x]) else if n = 0 then none else mk fi d (.r (.ld n ag)) (compArgs fi [x])
      | _ => none
    | none => none
  | .store t a x => match cellsT P t, a, d with
    | some (n, _), .tmp s, none => if fi.nt ≤ s then none else match fi.kind s with
      | .box => (compArgs fi [x]).map fun as => { dst := none, k := .p (.stl 0 n), args := .slot s :: as, ex := [s] }
      | .imm => (compArgs fi [x]).map fun as => { dst := none, k := .p (.sti n), args := .slot s :: as, ex := [s] }
      | _ => match fi.alias s with
        | some b => if fi.kind b = .box then (match x with
            | .tmp u => if rg.dst.contains u && isPlain fi u && n == 1 then some { dst := none, k := .p (.stfo b), args := [.slot s, .slot b, .slot u], ex := [b, u] }
              else (compArgs fi [x]).map fun as => { dst := none, k := .p (.stf b n), args := .slot s :: .slot b :: as, ex := [b] }
            | _ => (compArgs fi [x]).map fun as => { dst := none, k := .p (.stf b n), args := .slot s :: .slot b :: as, ex := [b] }) else none
        | none => match x with
          | .tmp u => if rg.dst.contains u && isPlain fi u && n == 1 then some { dst := none, k := .w .sto, args := [.slot s, .slot u], ex := [u] }
            else (compArgs fi [x]).map fun as => { dst := none, k := .w (.st n), args := .slot s :: as }
          | _ => (compArgs fi [x]).map fun as => { dst := none, k := .w (.st n), args := .slot s :: as }
    | _, _, _ => none
  | .nilCheck x => mk fi d (.p .chk) (compArgs fi [x])
  | .binOp op t x y _ => match P.underlying t with
    | some (.int _) | some .string => mk fi d (.p (.bin op 0)) (compArgs fi [x, y])
    | some .bool => mk fi d (.p (.bin op 1)) (compArgs fi [x, y])
    | some (.func _ _ _) => mk fi d (.p (.bin op 2)) (compArgs fi [x, y])
    | some (.slice _) => match op with
      | .eql => mk fi d (.p (.snil false)) (compArgs fi [x, y])
      | .neq => mk fi d (.p (.snil true)) (compArgs fi [x, y])
      | _ => mk fi d (.p .no) (some [])
    | _ => mk fi d (.p .no) (some [])
  | .unOp .not _ x => mk fi d (.p .not) (compArgs fi [x])
  | .convert s t x => match P.underlying s, P.underlying t with
    | some (.int _), some (.int k) => mk fi d (.p (.cvt k)) (compArgs fi [x])
    | some .string, some (.slice e) => match P.underlying e, cellsT P e with
      | some (.int .u8), some (1, _) => mk fi d (.p .cvb) (compArgs fi [x])
      | _, _ => none
    | some (.slice _), some (.slice e) => match P.underlying e, x, d with
      | some (.int .u8), .tmp u, some _ => if s = t then mk fi d (.p .cvi) (compArgs fi [.tmp u]) [u] else none
      | _, _, _ => none
    | _, _ => none
  | .makeFunc (.func f) first cap => mk fi d (.p (.mkf f first.size)) (compArgs fi (first.toList ++ cap.toList))
  | .makeMap t none => match d, P.underlying t with
    | some s, some (.map _ _) => match fi.kind s with
      | .mapb _ => if s < fi.nt then some { dst := d, k := .p .mkm, args := [], clr := fi.entsOf s } else none
      | _ => none
    | _, _ => none
  | .insert t (.tmp m) k x => match P.underlying t, fi.kind m, rg.ps, d with
    | some (.map kt _), .mapb keys, some s, none => match P.underlying kt, fi.kind s with
      | some (.int _), .ent m' key => if key.isInt = true ∧ m = m' ∧ m < fi.nt ∧ fi.nt ≤ s then (compArgs fi [k, x]).map fun as => { dst := none, k := .p (.ins key keys), args := .slot m :: as, ex := [s] } else none
      | some .string, .ent m' key => if key.isInt = false ∧ m = m' ∧ m < fi.nt ∧ fi.nt ≤ s then (compArgs fi [k, x]).map fun as => { dst := none, k := .p (.ins key keys), args := .slot m :: as, ex := [s] } else none
      | _, _ => none
    | _, _, _, _ => none
  | .lookup t x i ok => match P.underlying t with
    | some (.map k e) => match P.underlying k, zeroP P e with
      | some (.int _), some z => mk fi d (.p (.look z ok true)) (compArgs fi [x, i])
      | some .string, some z => mk fi d (.p (.look z ok false)) (compArgs fi [x, i])
      | _, _ => none
    | _ => none
  | .indexAddr t x i => match P.underlying t with
    | some (.slice e) => match cellsT P e with
      | some (size, _) => if 0 < size then mk fi d (.p (.idx size)) (compArgs fi [x, i]) else none
      | none => none
    | _ => none
  | .index t x i => match P.underlying t with
    | some .string => mk fi d (.p .sidx) (compArgs fi [x, i])
    | _ => none
  | .slice t x none (some (.const (.int _ p))) (some (.const (.int _ q))) => if p = 0 ∧ q = 0 then (match P.underlying t with
      | some (.slice e) => match cellsT P e with
        | some _ => mk fi d (.p .cut0) (compArgs fi [x])
        | none => none
      | _ => none) else none
  | .makeSlice t l c => match P.underlying t, d with
    | some (.slice e), some _ => match P.info? e, zeroP P e with
      | some i, some z => if 0 < i.size ∧ i.bytes ≤ 4096 ∧ z.cells.length = i.size then mk fi d (.w (.mks i.size z)) (compArgs fi [l, c]) else none
      | _, _ => none
    | _, _ => none
  | .slice t x lo hi none => match P.underlying t with
    | some .string => match compArgs fi (x :: (lo.toList ++ hi.toList)) with
      | some as => mk fi d (.p (.ssl lo.isSome hi.isSome)) (some as)
      | none => none
    | some (.slice e) => match cellsT P e, compArgs fi (x :: (lo.toList ++ hi.toList)) with
      | some (size, _), some as => if 0 < size then mk fi d (.p (.vsl size lo.isSome hi.isSome)) (some as) else none
      | _, _ => none
    | _ => none
  | .fieldAddr t x f => match P.underlying t with
    | some (.struct fs) => match fs[f]? with
      | some fl => match cellsT P fl.type with
        | some (n, ag) => if n = 0 then none else match x, d with
          | .tmp s, some u => if fi.nt ≤ s then none else match fi.kind s with
            | .box => if fi.alias u = some s then mk fi d (.p (.fal s fl.offset)) (some [.slot s]) else none
            | _ => match fi.alias s with
              | some b => if fi.alias u = some b ∧ fi.kind b = .box then mk fi d (.p (.fa fl.offset n ag)) (some [.slot s]) else none
              | none => mk fi d (.p (.fa fl.offset n ag)) (some [.slot s])
          | _, _ => none
        | none => none
      | none => none
    | _ => none
  | .field t x f => match P.underlying t with
    | some (.struct fs) => match fs[f]? with
      | some fl => match cellsT P fl.type with
        | some (n, ag) => mk fi d (.p (.fld fl.offset n ag)) (compArgs fi [x])
        | none => none
      | none => none
    | _ => none
  | .extract x i => mk fi d (.p (.ext i)) (compArgs fi [x])
  | .call c => match c.callee with
    | .value (.func f) => if pur f then mk fi d (.c f) (compArgs fi c.args.toList) else if rg.md = 4 ∧ d.isSome = true then mk fi d (.w (.callz f)) (compArgs fi c.args.toList) else mk fi d (.w (.call f)) (compArgs fi c.args.toList)
    | .value x => mk fi d (.w .calld) (compArgs fi (x :: c.args.toList))
    | .builtin .len => match c.argTypes.toList.map P.underlying with
      | [some .string] => mk fi d (.p (.len true)) (compArgs fi c.args.toList)
      | [some (.slice _)] => mk fi d (.p (.len false)) (compArgs fi c.args.toList)
      | _ => none
    | .builtin .cap => match c.argTypes.toList.map P.underlying with
      | [some (.slice _)] => mk fi d (.p .cap0) (compArgs fi c.args.toList)
      | _ => none
    | .builtin .append => if rg.md = 1 then (match c.argTypes.toList, c.args.toList, d with
      | [s, x], [y, z], some _ => match P.underlying s, P.underlying x with
        | some (.slice e), some (.slice _) => match P.info? e with
          | some i => if 0 < i.size ∧ i.bytes ≤ 4096 ∧ (i.zero.map (·.cells.size)) = some i.size then mk fi d (.w (.appA i.size)) (compArgs fi [y, z]) else none
          | none => none
        | some (.slice e), some (.int _) => match P.info? e, zeroP P e with
          | some i, some zp => if 0 < i.size ∧ i.bytes ≤ 4096 ∧ zp.cells.length = i.size then mk fi d (.w (.appZ i.size zp)) (compArgs fi [y, z]) else none
          | _, _ => none
        | _, _ => none
      | _, _, _ => none) else match c.argTypes.toList, c.args.toList, d with
      | [s, x], [.tmp u, y], some _ => match P.underlying s, P.underlying x with
        | some (.slice e), some (.slice _) => match P.info? e with
          | some i => if 0 < i.size ∧ i.bytes ≤ 4096 ∧ (i.zero.map (·.cells.size)) = some i.size then mk fi d (.p (.app i.size)) (compArgs fi [.tmp u, y]) [u] else none
          | none => none
        | some (.slice e), some .string => match P.info? e with
          | some i => if i.size = 1 ∧ i.bytes ≤ 4096 ∧ (i.zero.map (·.cells.size)) = some i.size then mk fi d (.p (.app i.size)) (compArgs fi [.tmp u, y]) [u] else none
          | none => none
        | _, _ => none
      | _, _, _ => none
    | .builtin .min => if c.args.size = 2 then mk fi d (.p .min) (compArgs fi c.args.toList) else none
    | .builtin .max => if c.args.size = 2 then mk fi d (.p .max) (compArgs fi c.args.toList) else none
    | _ => none
  | .panic _ | .makeInterface _ _ => mk fi d (.p .no) (some [])
  | _ => none
def compOpN (P : Program) (pur : FuncId → Bool) (fi : FI) (rg : RG) (o : Oper) : Option AOp :=
  match compOp P pur fi rg o with
  | some a => some a
  | none => some { dst := o.dst, k := .p .no, args := [] }
def compGuard (fi : FI) (ops : Array Oper) : Option (Nat × Bool) → Option (Option (Nat × Bool))
  | none => some none
  | some (j, b) => match (ops[j]?).bind (·.dst) with
    | some t => if isPlain fi t then some (some (t, b)) else none
    | none => none
def appSrcs (fi : FI) (id : Nat) : Nat → List Oper → List Nat
  | _, [] => []
  | j, o :: os => match o.op with
    | .call { callee := .builtin .append, args, .. } => (if fi.mode id j = 1 then [] else match (args[0]? : Option Operand) with | some (.tmp u) => [u] | _ => []) ++ appSrcs fi id (j + 1) os
    | _ => appSrcs fi id (j + 1) os
def appDsts (fi : FI) (id : Nat) : Nat → List Oper → List Nat
  | _, [] => []
  | j, o :: os => match o.op with
    | .call { callee := .builtin .append, .. } | .buildSlice _ _ _ => (if fi.mode id j = 1 then [] else o.dst.toList) ++ appDsts fi id (j + 1) os
    | _ => appDsts fi id (j + 1) os
def compList (P : Program) (pur : FuncId → Bool) (fi : FI) (id : Nat) (rg : RG) (ops : Array Oper) : Nat → List Oper → Option (List AOp)
  | _, [] => some []
  | j, o :: os => match compOpN P pur fi { rg with ps := ((fi.ps.find? fun x => x.1 == id && x.2.1 == j).map (·.2.2)), md := fi.mode id j } o, compGuard fi ops o.guard, compList P pur fi id rg ops (j + 1) os with
    | some a, some g, some as => if g.isSome ∧ (a.ex ≠ [] ∨ a.clr ≠ [] ∨ plainDst fi a.dst = false) then none else some ({ a with guard := g } :: as)
    | _, _, _ => none
def aheadBits (acc : List Nat) (o : Oper) : Nat :=
  o.after.foldl (fun s e => if Region.binds .any e then s ||| 2 ^ e.on ||| acc.getD e.on 0 else s) 0
def aheads : List Nat → List Oper → List Nat
  | acc, [] => acc
  | acc, o :: os => aheads (acc ++ [aheadBits acc o]) os
def isW : AK → Bool
  | .w _ => true
  | _ => false
def isH : AK → Bool
  | .w .ldo => false
  | .w _ => true
  | _ => false
def isP : AK → Bool
  | .p _ | .c _ => true
  | _ => false
def disjointL (a b : List Nat) : Bool := a.all fun t => !b.contains t
def apartA (x y : AOp) : Bool :=
  disjointL x.wr y.rd && disjointL y.wr x.rd && disjointL x.wr y.wr && (!isW x.k || isP y.k || (!isH x.k && !isW y.k)) && (!isW y.k || isP x.k || (!isH y.k && !isW x.k))
def pairsOk (bits : List Nat) (as : List AOp) : Nat → Bool
  | 0 => true
  | j + 1 => pairsOk bits as j && (List.range j).all fun i => (bits.getD j 0).testBit i || apartA (as.getD i default) (as.getD j default)
def acyclic (ops : List Oper) : Nat → Bool
  | 0 => true
  | i + 1 => acyclic ops i && (match ops[i]? with | some o => o.after.all fun e => !Region.binds .any e || decide (e.on < i) | none => true)
def compRegion (P : Program) (pur : FuncId → Bool) (fi : FI) (id : Nat) (ops : Array Oper) (draw : Bool) : Option (List AOp) :=
  match compList P pur fi id ⟨none, appSrcs fi id 0 ops.toList, appDsts fi id 0 ops.toList, 0⟩ ops 0 ops.toList with
  | some as => if draw then (if acyclic ops.toList ops.size && pairsOk (aheads [] ops.toList) as ops.size then some as else none) else some as
  | none => none
def comp (P : Program) (pur : FuncId → Bool) (fi : FI) : Code → Option ACode
  | .skip => some .skip
  | .region id ops draw => (compRegion P pur fi id ops draw).map .region
  | .seq a b => match comp P pur fi a, comp P pur fi b with
    | some x, some y => some (.seq x y)
    | _, _ => none
  | .cond c t e => match compArg fi c, comp P pur fi t, comp P pur fi e with
    | some x, some y, some z => some (.cond x y z)
    | _, _, _ => none
  | .block id c => (comp P pur fi c).map (.block id)
  | .loop c => (comp P pur fi c).map (.loop fi.keep)
  | .exit id => some (.exit id)
  | .ret => some .ret
  | _ => none
def resSlots (P : Program) (fi : FI) : List ResultVar → Option (List (Nat × Option Nat))
  | [] => some []
  | .tmp t :: r => if isPlain fi t then (resSlots P fi r).map ((t, none) :: ·) else none
  | .cell t ty :: r => match cellsT P ty with
    | some (n, true) => if t < fi.nt ∧ fi.kind t = .box then (resSlots P fi r).map ((t, some n) :: ·) else none
    | _ => none
def FI.okB (fi : FI) : Bool := (List.range fi.kd.length).all fun t => match fi.kind t with
  | .ent m key => (match fi.kind m with | .mapb _ => true | _ => false) && (List.range fi.kd.length).all (fun t' => t' == t || (match fi.kind t' with | .ent m' key' => !(decide (m' = m) && decide (key' = key)) | _ => true))
  | _ => true
def SK.isVal : SK → Bool
  | .plain | .imm | .obj => true
  | _ => false
def compFunc (P : Program) (pur : FuncId → Bool) (fi : FI) (fn : Func) : Option AFunc :=
  match fn.body with
  | some c => match comp P pur fi c, resSlots P fi fn.results.toList with
    | some ac, some rs => if fi.nt ≠ fn.ntmps ∨ fi.okB = false ∨ (List.range (fn.params.size + fn.nfree)).all (fun t => (fi.kind t).isVal) = false then none else some { nargs := fn.params.size + fn.nfree, ntmps := fn.ntmps, extra := fi.ps.length, results := rs, code := ac }
    | _, _ => none
  | none => none
end Go.Abs

namespace Go.Abs
open Go.RowKit
def FW (ro : Option Nat) : Fence := { fn := fun _ => True, depth := none, alive := false, round := ro }
theorem opIn_value {ro : Option Nat} {n : Nat} {P : Program} {o : Oper} {a : Act} {w w' : World} {K : Act → World → Prop} {Q : Exit → Act → World → Prop} {v : Value}
    (hd : ∀ c, o.op ≠ .defer c) (hr : (execOp a.eval o).run P w = .ok (.value v) w') (hk : K (a.put o.dst v) w') : o.wpIn (FW ro) n P a w K Q := by
  refine ⟨fun _ _ => trivial, ?_⟩
  rw [Oper.semAt_eq _ _ _ hd, hr]
  exact hk
theorem opIn_skip {ro : Option Nat} {n : Nat} {P : Program} {o : Oper} {a : Act} {w w' : World} {K : Act → World → Prop} {Q : Exit → Act → World → Prop}
    (hd : ∀ c, o.op ≠ .defer c) (hr : (execOp a.eval o).run P w = .ok .skip w') (hk : K (a.put o.dst undef) w') : o.wpIn (FW ro) n P a w K Q := by
  refine ⟨fun _ _ => trivial, ?_⟩
  rw [Oper.semAt_eq _ _ _ hd, hr]
  exact hk
section inv
variable {I : Imm} {bl : Bl} {w : World} {v : Value}
theorem RepT.rep {p : PV} (h : RepT I bl w v p) (h1 : p.isRef = false) (h2 : ∀ f fs cs, p ≠ .func f fs cs) (h3 : ∀ vs, p ≠ .tuple vs) (h4 : ∀ cs, p ≠ .aggr cs := by simp) : Rep I w v p := by
  cases h with
  | one h =>
    rcases h with h | h
    · exact h
    · cases h <;> cases h1
  | func _ _ _ _ => exact absurd rfl (h2 _ _ _)
  | tuple _ _ => exact absurd rfl (h3 _)
  | aggr _ _ => exact absurd rfl (h4 _)
theorem RepT.bool_inv {b : Bool} (h : RepT I bl w v (.bool b)) : v = .bool b := by
  cases h.rep rfl (by simp) (by simp); rfl
theorem RepT.int_inv {k : IntKind} {n : Int} (h : RepT I bl w v (.int k n)) : v = .int k n := by
  cases h.rep rfl (by simp) (by simp); rfl
theorem RepT.str_inv {l : List UInt8} (h : RepT I bl w v (.str l)) : ∃ s : ByteArray, v = .string s ∧ s.data.toList = l := by
  cases h.rep rfl (by simp) (by simp); exact ⟨_, rfl, rfl⟩
theorem RepT.nils_inv (h : RepT I bl w v .nils) : v = .slice none 0 0 := by
  cases h.rep rfl (by simp) (by simp); rfl
theorem RepT.nilm_inv (h : RepT I bl w v .nilm) : v = .map none := by
  cases h.rep rfl (by simp) (by simp); rfl
theorem RepT.empt_inv (h : RepT I bl w v .empt) : ∃ a, v = .slice (some a) 0 0 := by
  cases h.rep rfl (by simp) (by simp); exact ⟨_, rfl⟩
theorem RepT.nilf_inv (h : RepT I bl w v .nilf) : v = .nilFunc := by
  cases h.rep rfl (by simp) (by simp); rfl
theorem RepT.agg_inv {ps : List PV} (h : RepT I bl w v (.agg ps)) : ∃ cs : Array Value, v = .agg cs ∧ cs.size = ps.length ∧ ∀ (i : Nat) (p : PV), ps[i]? = some p → Rep I w (cs.getD i undef) p := by
  cases h.rep rfl (by simp) (by simp) with
  | agg h hr => exact ⟨_, rfl, h, hr⟩
theorem RepT.vptr_inv {x : PV} (h : RepT I bl w v (.vptr x)) : ∃ b off, ∃ cv : Nat → Value, v = .pointer (some ⟨b, off, none⟩) ∧ (∀ (j : Nat) (p : PV), x.cells[j]? = some p → I b (some (off + j))) ∧
    (∀ (j : Nat) (p : PV), x.cells[j]? = some p → w.cell? ⟨b, off + j, none⟩ = some (cv j)) ∧ (∀ (j : Nat) (p : PV), x.cells[j]? = some p → Rep I w (cv j) p) := by
  cases h.rep rfl (by simp) (by simp) with
  | vptr cv h1 h2 h3 => exact ⟨_, _, cv, rfl, h1, h2, h3⟩
theorem RepT.ref_inv {id off : Nat} (h : RepT I bl w v (.ref id off)) : ∃ b, bl.l[id]? = some b ∧ v = .pointer (some ⟨b, off, none⟩) := by
  cases h with
  | one h =>
    rcases h with h | h
    · cases h
    · cases h with
      | ref h => exact ⟨_, h, rfl⟩
theorem RepT.arr_inv {id gen off len size : Nat} (h : RepT I bl w v (.arr id gen off len size)) : ∃ b base n cap b' o', bl.ab id gen = some (b, base, n) ∧ len ≤ cap ∧
    base + (off + cap) * size ≤ n ∧ (0 < cap → b' = b ∧ o' = base + off * size) ∧ v = .slice (some ⟨b', o', none⟩) len cap := by
  cases h with
  | one h =>
    rcases h with h | h
    · cases h
    · cases h with
      | arr h h1 h2 h3 => exact ⟨_, _, _, _, _, _, h, h1, h2, h3, rfl⟩
theorem RepT.aptr_inv {id gen size i off : Nat} (h : RepT I bl w v (.aptr id gen size i off)) : ∃ b base n, bl.ab id gen = some (b, base, n) ∧ v = .pointer (some ⟨b, base + i * size + off, none⟩) := by
  cases h with
  | one h =>
    rcases h with h | h
    · cases h
    · cases h with
      | aptr h => exact ⟨_, _, _, h, rfl⟩
theorem RepT.tuple_inv {ps : List PV} (h : RepT I bl w v (.tuple ps)) : ∃ cs : Array Value, v = .tuple cs ∧ cs.size = ps.length ∧ ∀ (i : Nat) (p : PV), ps[i]? = some p → Rep1 I bl w (cs.getD i undef) p := by
  cases h with
  | one h =>
    rcases h with h | h
    · cases h with
      | tuple h hr => exact ⟨_, rfl, h, fun i p hp => .inl (hr i p hp)⟩
    · cases h
  | tuple h hr => exact ⟨_, rfl, h, hr⟩
theorem RepT.aggr_inv {ps : List PV} (h : RepT I bl w v (.aggr ps)) : ∃ cs : Array Value, v = .agg cs ∧ cs.size = ps.length ∧ ∀ (i : Nat) (p : PV), ps[i]? = some p → Rep1 I bl w (cs.getD i undef) p := by
  cases h with
  | one h =>
    rcases h with h | h
    · cases h
    · cases h
  | aggr h hr => exact ⟨_, rfl, h, hr⟩
theorem RepT.func_inv {f : FuncId} {first cap : List PV} (h : RepT I bl w v (.func f first cap)) : ∃ fs cs : Array Value, v = .func (.func f) fs cs ∧ fs.size = first.length ∧ cs.size = cap.length ∧
    (∀ (i : Nat) (p : PV), first[i]? = some p → Rep1 I bl w (fs.getD i undef) p) ∧ (∀ (i : Nat) (p : PV), cap[i]? = some p → Rep1 I bl w (cs.getD i undef) p) := by
  cases h with
  | one h =>
    rcases h with h | h
    · cases h with
      | func h1 h2 hf hc => exact ⟨_, _, rfl, h1, h2, fun i p hp => .inl (hf i p hp), fun i p hp => .inl (hc i p hp)⟩
    · cases h
  | func h1 h2 hf hc => exact ⟨_, _, rfl, h1, h2, hf, hc⟩
theorem RepT.slice_inv {own : Bool} {size : Nat} {es : List PV} (h : RepT I bl w v (.slice own size es)) : ∃ a len cap, ∃ cv : Nat → Nat → Value, v = .slice (some a) len cap ∧ len = es.length ∧ len ≤ cap ∧ (es ≠ [] → a.spot = none) ∧
    (∀ (i : Nat) (e : PV), es[i]? = some e → e.cells.length = size) ∧
    (∀ (i : Nat) (e : PV) (j : Nat) (p : PV), es[i]? = some e → e.cells[j]? = some p → I a.block (some (a.off + i * size + j))) ∧
    (∀ (i : Nat) (e : PV) (j : Nat) (p : PV), es[i]? = some e → e.cells[j]? = some p → w.cell? ⟨a.block, a.off + i * size + j, none⟩ = some (cv i j)) ∧
    (∀ (i : Nat) (e : PV) (j : Nat) (p : PV), es[i]? = some e → e.cells[j]? = some p → Rep I w (cv i j) p) := by
  cases h.rep rfl (by simp) (by simp) with
  | slice cv h1 h2 h3 h4 h5 h6 h7 => exact ⟨_, _, _, cv, rfl, h1, h2, h3, h4, h5, h6, h7⟩
end inv
theorem Rep.own0 {I : Imm} {w : World} {v : Value} {p : PV} (h : Rep I w v p) : Rep I w v p.own0 := by
  cases h <;> first | exact .slice _ ‹_› ‹_› ‹_› ‹_› ‹_› ‹_› ‹_› | (constructor <;> assumption)
theorem Rep.disown {I : Imm} {w : World} {v : Value} {p : PV} (h : Rep I w v p) : Rep I w v p.disown := by
  cases h with
  | agg h hr =>
    refine .agg (by simpa using h) fun i p hp => ?_
    rw [List.getElem?_map] at hp
    obtain ⟨q, hq, rfl⟩ := Option.map_eq_some_iff.1 hp
    exact (hr i q hq).own0
  | slice _ h1 h2 h3 h4 h5 h6 h7 => exact .slice _ h1 h2 h3 h4 h5 h6 h7
  | bool b => exact .bool b
  | int k n => exact .int k n
  | str s => exact .str s
  | nilp => exact .nilp
  | vptr cv h1 h2 h3 => exact .vptr cv h1 h2 h3
  | nils => exact .nils
  | empt => exact .empt
  | nili => exact .nili
  | nilm => exact .nilm
  | mapv ix h1 h2 h3 h4 h5 h6 h7 => exact .mapv ix h1 h2 h3 h4 h5 h6 h7
  | nilf => exact .nilf
  | func h1 h2 h3 h4 => exact .func h1 h2 h3 h4
  | tuple h hr => exact .tuple h hr
theorem RefOk.disown {bl : Bl} {v : Value} {p : PV} (h : RefOk bl v p) : p.disown = p := by cases h <;> rfl
theorem RefOk.own0 {bl : Bl} {v : Value} {p : PV} (h : RefOk bl v p) : p.own0 = p := by cases h <;> rfl
theorem RepT.disown {I : Imm} {bl : Bl} {w : World} {v : Value} {p : PV} (h : RepT I bl w v p) : RepT I bl w v p.disown := by
  cases h with
  | one h =>
    rcases h with h | h
    · exact .one (.inl h.disown)
    · exact .one (.inr (by rw [h.disown]; exact h))
  | func h1 h2 h3 h4 => exact .func h1 h2 h3 h4
  | tuple h hr => exact .tuple h hr
  | aggr h hr =>
    refine .aggr (by simpa using h) fun i p hp => ?_
    rw [List.getElem?_map] at hp
    obtain ⟨q, hq, rfl⟩ := Option.map_eq_some_iff.1 hp
    rcases hr i q hq with h' | h'
    · exact .inl h'.own0
    · refine .inr ?_
      rw [h'.own0]; exact h'
theorem OwnOk_disown {G : Gh} {w : World} {tag : Tag} {c : Value} (p : PV) : OwnOk G w tag c p.disown := by
  cases p <;> exact trivial
theorem OwnOk_own0 {G : Gh} {w : World} {tag : Tag} {c : Value} (p : PV) : OwnOk G w tag c p.own0 := by
  cases p <;> exact trivial
theorem free_disown (p : PV) : p.disown.free = p.free := by cases p <;> rfl
theorem cells_disown (p : PV) : p.disown.cells.length = p.cells.length := by cases p <;> simp [PV.disown, PV.cells]
theorem rep_ofVal0 {I : Imm} {w : World} {v : Value} {p : PV} (h : ofVal0 v = some p) : Rep I w v p := by
  unfold ofVal0 at h
  split at h <;> first | (cases h; constructor) | cases h
theorem rep_ofVals {I : Imm} {w : World} : ∀ {vs : List Value} {ps : List PV}, ofVals vs = some ps → vs.length = ps.length ∧ ∀ (i : Nat) (p : PV), ps[i]? = some p → ∃ v, vs[i]? = some v ∧ Rep I w v p
  | [], ps, h => by cases h; exact ⟨rfl, fun i p hp => by simp at hp⟩
  | v :: vs, ps, h => by
    unfold ofVals at h
    split at h
    · rename_i q qs h1 h2
      cases h
      obtain ⟨e, hr⟩ := rep_ofVals (I := I) (w := w) h2
      refine ⟨by simp [e], fun i p hp => ?_⟩
      cases i with
      | zero => simp at hp; subst hp; exact ⟨v, rfl, rep_ofVal0 h1⟩
      | succ i => simpa using hr i p (by simpa using hp)
    · cases h
theorem rep_ofVal {I : Imm} {w : World} {v : Value} {p : PV} (h : ofVal v = some p) : Rep I w v p := by
  unfold ofVal at h
  split at h
  · rename_i cs
    obtain ⟨ps, hps, rfl⟩ := Option.map_eq_some_iff.1 h
    obtain ⟨e, hr⟩ := rep_ofVals (I := I) (w := w) hps
    refine .agg (by simpa using e) fun i p hp => ?_
    obtain ⟨v, hv, hrep⟩ := hr i p hp
    have : cs.getD i undef = v := by
      rw [Array.getD_eq_getD_getElem?]
      rw [Array.getElem?_toList] at hv
      simp [hv]
    rw [this]; exact hrep
  · exact rep_ofVal0 h
theorem free_ofVal0 {v : Value} {p : PV} (h : ofVal0 v = some p) : p.free = true := by
  unfold ofVal0 at h
  split at h <;> first | (cases h; rfl) | cases h
theorem free_ofVal {v : Value} {p : PV} (h : ofVal v = some p) : p.free = true := by
  unfold ofVal at h
  split at h
  · obtain ⟨ps, _, rfl⟩ := Option.map_eq_some_iff.1 h; rfl
  · exact free_ofVal0 h
def SK.val : SK → Bool
  | .plain | .imm | .obj => true
  | _ => false
theorem SlotOk_val {cx : Cx} {G : Gh} {a : Act} {w : World} {t : Nat} {v : PV} (hk : (cx.kd t).val = true) (hf : v.free = true) :
    SlotOk cx G a w t v ↔ (RepT G.I G.bl w (at' a t) v ∧ OwnOk G w (.slot t none) (at' a t) v) := by
  unfold SlotOk
  cases h : cx.kd t <;> rw [h] at hk <;> simp [SK.val] at hk <;> dsimp only <;> (split <;> first | exact Iff.rfl | (simp [PV.free] at hf))
theorem arg_rep {fi : FI} {cx : Cx} {G : Gh} {a : Act} {w : World} {A : Frm} {σ : Sto} (hi : Inv cx G a w A σ) (hkd : ∀ t, cx.kd t = fi.kind t)
    {x : Operand} {y : AArg} (hc : compArg fi x = some y) {p : PV} (he : evalArgs A [y] = some [p]) (hf : p.free = true) : RepT G.I G.bl w (a.eval x) p := by
  cases x with
  | tmp t =>
    simp only [compArg] at hc
    have hy : y = .slot t ∧ (cx.kd t).val = true := by
      rw [hkd]
      split at hc <;> first | (rename_i hk; rw [hk]; split at hc <;> first | (cases hc; exact ⟨rfl, rfl⟩) | cases hc) | cases hc
    obtain ⟨rfl, hv⟩ := hy
    simp only [evalArgs] at he
    split at he
    · rename_i v vs hg hv'
      cases hv'
      cases he
      exact ((SlotOk_val hv hf).1 (hi.slot t _ hg)).1
    · cases he
  | const v =>
    simp only [compArg] at hc
    obtain ⟨q, hq, rfl⟩ := Option.map_eq_some_iff.1 hc
    simp [evalArgs] at he
    subst he
    exact .one (.inl (rep_ofVal hq))
  | func f =>
    simp only [compArg] at hc
    cases hc
    simp [evalArgs] at he
    subst he
    exact .one (.inl (.func rfl rfl (fun i p h => by simp at h) (fun i p h => by simp at h)))
  | global g => cases hc
theorem evalArgs_cons {A : Frm} {y : AArg} {ys : List AArg} {ps : List PV} (h : evalArgs A (y :: ys) = some ps) : ∃ p qs, ps = p :: qs ∧ evalArgs A [y] = some [p] ∧ evalArgs A ys = some qs := by
  cases y with
  | slot t =>
    simp only [evalArgs] at h ⊢
    split at h
    · rename_i v vs hg hv
      cases h
      exact ⟨v, vs, rfl, by simp [hg], hv⟩
    · cases h
  | val v =>
    simp only [evalArgs] at h ⊢
    obtain ⟨qs, hq, rfl⟩ := Option.map_eq_some_iff.1 h
    exact ⟨v, qs, rfl, rfl, hq⟩
theorem compArgs_cons {fi : FI} {x : Operand} {xs : List Operand} {ys : List AArg} (h : compArgs fi (x :: xs) = some ys) : ∃ y zs, ys = y :: zs ∧ compArg fi x = some y ∧ compArgs fi xs = some zs := by
  simp only [compArgs] at h
  split at h
  · rename_i y zs h1 h2
    cases h
    exact ⟨y, zs, rfl, h1, h2⟩
  · cases h
theorem args_rep {fi : FI} {cx : Cx} {G : Gh} {a : Act} {w : World} {A : Frm} {σ : Sto} (hi : Inv cx G a w A σ) (hkd : ∀ t, cx.kd t = fi.kind t) :
    ∀ {xs : List Operand} {ys : List AArg}, compArgs fi xs = some ys → ∀ {ps : List PV}, evalArgs A ys = some ps → (∀ p ∈ ps, p.free = true) →
      xs.length = ps.length ∧ ∀ (i : Nat) (x : Operand) (p : PV), xs[i]? = some x → ps[i]? = some p → RepT G.I G.bl w (a.eval x) p
  | [], ys, hc, ps, he, _ => by
    cases hc; cases he
    exact ⟨rfl, fun i x p h => by simp at h⟩
  | x :: xs, ys, hc, ps, he, hf => by
    obtain ⟨y, zs, rfl, h1, h2⟩ := compArgs_cons hc
    obtain ⟨p, qs, rfl, h3, h4⟩ := evalArgs_cons he
    obtain ⟨hl, hr⟩ := args_rep hi hkd h2 h4 (fun p hp => hf p (List.mem_cons_of_mem _ hp))
    refine ⟨by simp [hl], fun i x' p' hx hp => ?_⟩
    cases i with
    | zero => simp at hx hp; subst hx hp; exact arg_rep hi hkd h1 h3 (hf _ (List.mem_cons_self ..))
    | succ i => exact hr i x' p' (by simpa using hx) (by simpa using hp)
def setO (A : Frm) (dst : Option Nat) (p : PV) : Frm := match dst with | some d => A.set d (some p) | none => A
theorem Inv.put1 {cx : Cx} {G G' : Gh} {a : Act} {w w' : World} {A : Frm} {σ : Sto} (h : Inv cx G a w A σ) (he : Ext (fun _ => False) G G' w w') (hb : Base cx G' w')
    (hbl : G'.bl = G.bl) (dst : Option Nat) (hdst : ∀ d, dst = some d → d < cx.nt ∧ (cx.kd d).val = true) {v : Value} {p : PV} (hf : p.free = true)
    (hr : RepT G'.I G'.bl w' v p) (ho : ∀ d, dst = some d → OwnOk G' w' (.slot d none) v p) : Inv cx G' (a.put dst v) w' (setO A dst p) σ := by
  refine h.step (fun _ => False) dst v he hb ?_ ?_ (fun _ cs hc => .inl ⟨hc, fun _ h => h⟩) (by rw [hbl]; exact h.len) (by rw [hbl]; exact h.abl)
  · cases dst <;> simp [setO]
  · intro t q hq
    cases dst with
    | none =>
      exact .inl ⟨hq, by simp, fun _ => id, fun _ _ _ _ => by simp, fun _ _ => ⟨by simp, id⟩⟩
    | some d =>
      obtain ⟨hd1, hd2⟩ := hdst d rfl
      simp only [setO, get_set] at hq
      split at hq
      · rename_i hc
        cases hq
        refine .inr ?_
        rw [hc.1, SlotOk_val hd2 hf, at'_put _ _ _ (by rw [h.size]; exact hd1)]
        exact ⟨hr, ho d rfl⟩
      · rename_i hc
        have hne : d ≠ t := fun e => hc ⟨e.symm, by have := h.room; omega⟩
        refine .inl ⟨hq, fun e => hne (Option.some.inj e), fun _ => id, fun d' off e hbx => ?_, fun m hm => ⟨?_, id⟩⟩
        · intro e'
          have := Option.some.inj e'
          subst this
          rw [hbx] at hd2; simp [SK.val] at hd2
        · intro e'
          have := Option.some.inj e'
          subst this
          obtain ⟨keys, hk⟩ := cx.ents t d hm
          rw [hk] at hd2; simp [SK.val] at hd2
end Go.Abs

namespace Go.Abs
open Go.RowKit
section
variable {P : Program} {pur : FuncId → Bool} {call : Caller} {fi : FI} {cx : Cx} {G : Gh} {a : Act} {w : World} {A A' : Frm} {σ σ' : Sto}
def Gives (P : Program) (cx : Cx) (o : Oper) (a : Act) (w : World) (A' : Frm) (σ' : Sto) : Prop :=
  (∃ v w', (execOp a.eval o).run P w = .ok (.value v) w' ∧ Sim cx (a.put o.dst v) w' A' σ') ∨
  (∃ w', (execOp a.eval o).run P w = .ok .skip w' ∧ Sim cx (a.put o.dst undef) w' A' σ')
def Kept (d : Option Nat) (a a' : Act) : Prop := ∀ t, d ≠ some t → at' a' t = at' a t
theorem kept_put (a : Act) (d : Option Nat) (v : Value) : Kept d a (a.put d v) := fun t h => at'_put_ne a d v t h
theorem Gives.wp {ro : Option Nat} {n : Nat} {o : Oper} {K : Act → World → Prop} {Q : Exit → Act → World → Prop} (h : Gives P cx o a w A' σ') (hd : ∀ c, o.op ≠ .defer c)
    (hk : ∀ a' w', Sim cx a' w' A' σ' → Kept o.dst a a' → K a' w') : o.wpIn (FW ro) n P a w K Q := by
  rcases h with ⟨v, w', h1, h2⟩ | ⟨w', h1, h2⟩
  · exact opIn_value hd h1 (hk _ _ h2 (kept_put _ _ _))
  · exact opIn_skip hd h1 (hk _ _ h2 (kept_put _ _ _))
theorem plain_ok (hkd : ∀ t, cx.kd t = fi.kind t) (hnt : cx.nt = fi.nt) {d : Option Nat} (h : plainDst fi d = true) : ∀ t, d = some t → t < cx.nt ∧ (cx.kd t).val = true := by
  rintro t rfl
  simp only [plainDst, isPlain, Bool.and_eq_true, decide_eq_true_eq] at h
  obtain ⟨h1, h2⟩ := h
  rw [hnt, hkd]
  refine ⟨h1, ?_⟩
  split at h2
  · rename_i hk; rw [hk]; rfl
  · cases h2
theorem mk_some {d : Option Nat} {k : AK} {args : Option (List AArg)} {ex : List Nat} {ao : AOp} (h : mk fi d k args ex = some ao) :
    ∃ as, args = some as ∧ ao = { dst := d, k, args := as, ex } ∧ plainDst fi d = true ∧ ex.all (isPlain fi) = true ∧ ex.all (fun t => d != some t) = true := by
  unfold mk at h
  split at h
  · rename_i hc
    simp only [Bool.and_eq_true] at hc
    obtain ⟨as, h1, h2⟩ := Option.map_eq_some_iff.1 h
    exact ⟨as, h1, h2.symm, hc.1.1, hc.1.2, hc.2⟩
  · cases h
theorem run1 {d : Option Nat} {k : PK} {as : List AArg} (h : runA pur call { dst := d, k := .p k, args := as } A σ = some (A', σ')) :
    ∃ vs rs, evalArgs A as = some vs ∧ semP k vs = some rs ∧ σ' = σ ∧ ∀ p, rs = [some p] → A' = setO A d p := by
  unfold runA at h
  dsimp only at h
  split at h
  · rename_i vs hvs
    simp only [sem] at h
    split at h
    · rename_i rs σ₁ hs
      obtain ⟨rs', hrs, e⟩ := Option.map_eq_some_iff.1 hs
      cases e
      refine ⟨vs, rs, hvs, hrs, ?_, ?_⟩
      · split at h
        · cases h; rfl
        · split at h <;> cases h; rfl
      · rintro p rfl
        cases d with
        | none =>
          simp at h
          rw [← h.1]; rfl
        | some d =>
          simp [AOp.wr, putAll] at h
          rw [← h.1]; rfl
    · cases h
  · cases h
theorem gives0 (hi : Inv cx G a w A σ) (hkd : ∀ t, cx.kd t = fi.kind t) (hnt : cx.nt = fi.nt) {o : Oper} {k : PK} {as : List AArg} (hd : plainDst fi o.dst = true)
    (hrun : runA pur call { dst := o.dst, k := .p k, args := as } A σ = some (A', σ'))
    (hsem : ∀ vs rs, evalArgs A as = some vs → semP k vs = some rs → ∃ p v, rs = [some p] ∧ p.free = true ∧ (execOp a.eval o).run P w = .ok (.value v) w ∧
      RepT G.I G.bl w v p ∧ ∀ tag, OwnOk G w tag v p) : Gives P cx o a w A' σ' := by
  obtain ⟨vs, rs, h1, h2, rfl, h3⟩ := run1 hrun
  obtain ⟨p, v, rfl, hf, hr, hrep, how⟩ := hsem vs rs h1 h2
  rw [h3 p rfl]
  exact .inl ⟨v, w, hr, G, hi.put1 (Ext.refl _ _ _) hi.base rfl o.dst (plain_ok hkd hnt hd) hf hrep (fun _ _ => how _)⟩
theorem free_of_flat {p : PV} (h : p.flat = true) : p.free = true := by cases p <;> first | rfl | simp [PV.flat] at h
theorem own_none {G : Gh} {w : World} {tag : Tag} {v : Value} {p : PV} (h : ∀ sz es, p ≠ .slice true sz es) : OwnOk G w tag v p := by
  unfold OwnOk; split
  · exact absurd rfl (h _ _)
  · trivial
theorem sim_mv (hi : Inv cx G a w A σ) (hkd : ∀ t, cx.kd t = fi.kind t) (hnt : cx.nt = fi.nt) {o : Oper} {x : Operand} (ho : o.op = .move x ∨ o.op = .assign x)
    {as : List AArg} (hc : compArgs fi [x] = some as) (hd : plainDst fi o.dst = true) (hrun : runA pur call { dst := o.dst, k := .p .mv, args := as } A σ = some (A', σ')) : Gives P cx o a w A' σ' := by
  refine gives0 hi hkd hnt hd hrun fun vs rs he hs => ?_
  obtain ⟨y, zs, rfl, hy, hz⟩ := compArgs_cons hc
  cases hz
  obtain ⟨p, qs, rfl, hp, hq⟩ := evalArgs_cons he
  cases hq
  simp only [semP] at hs
  split at hs
  · rename_i hf
    cases hs
    refine ⟨_, a.eval x, rfl, by rw [free_disown]; exact hf, ?_, (arg_rep hi hkd hy hp hf).disown, fun _ => OwnOk_disown p⟩
    rcases ho with ho | ho <;> simp [execOp, ho]
  · cases hs
theorem sim_pick (hi : Inv cx G a w A σ) (hkd : ∀ t, cx.kd t = fi.kind t) (hnt : cx.nt = fi.nt) {o : Oper} {c x y : Operand} (ho : o.op = .pick c x y)
    {as : List AArg} (hc : compArgs fi [c, x, y] = some as) (hd : plainDst fi o.dst = true) (hrun : runA pur call { dst := o.dst, k := .p .pick, args := as } A σ = some (A', σ')) : Gives P cx o a w A' σ' := by
  refine gives0 hi hkd hnt hd hrun fun vs rs he hs => ?_
  obtain ⟨y1, zs, rfl, hy1, hz⟩ := compArgs_cons hc
  obtain ⟨y2, zs, rfl, hy2, hz⟩ := compArgs_cons hz
  obtain ⟨y3, zs, rfl, hy3, hz⟩ := compArgs_cons hz
  cases hz
  obtain ⟨p1, qs, rfl, hp1, hq⟩ := evalArgs_cons he
  obtain ⟨p2, qs, rfl, hp2, hq⟩ := evalArgs_cons hq
  obtain ⟨p3, qs, rfl, hp3, hq⟩ := evalArgs_cons hq
  cases hq
  cases p1 with
  | bool b =>
    have hb := (arg_rep hi hkd hy1 hp1 rfl).bool_inv
    cases b
    · simp only [semP] at hs
      simp only [Bool.false_eq_true, if_false] at hs
      split at hs
      · rename_i hf
        cases hs
        refine ⟨_, a.eval y, rfl, by rw [free_disown]; exact hf, ?_, (arg_rep hi hkd hy3 hp3 hf).disown, fun _ => OwnOk_disown _⟩
        simp [execOp, ho, hb, asBool]
      · cases hs
    · simp only [semP] at hs
      simp only [if_true] at hs
      split at hs
      · rename_i hf
        cases hs
        refine ⟨_, a.eval x, rfl, by rw [free_disown]; exact hf, ?_, (arg_rep hi hkd hy2 hp2 hf).disown, fun _ => OwnOk_disown _⟩
        simp [execOp, ho, hb, asBool]
      · cases hs
  | _ => simp [semP] at hs
theorem sim_not (hi : Inv cx G a w A σ) (hkd : ∀ t, cx.kd t = fi.kind t) (hnt : cx.nt = fi.nt) {o : Oper} {t : TypeId} {x : Operand} (ho : o.op = .unOp .not t x)
    {as : List AArg} (hc : compArgs fi [x] = some as) (hd : plainDst fi o.dst = true) (hrun : runA pur call { dst := o.dst, k := .p .not, args := as } A σ = some (A', σ')) : Gives P cx o a w A' σ' := by
  refine gives0 hi hkd hnt hd hrun fun vs rs he hs => ?_
  obtain ⟨y, zs, rfl, hy, hz⟩ := compArgs_cons hc
  cases hz
  obtain ⟨p, qs, rfl, hp, hq⟩ := evalArgs_cons he
  cases hq
  cases p with
  | bool b =>
    have hb := (arg_rep hi hkd hy hp rfl).bool_inv
    simp only [semP] at hs
    cases hs
    exact ⟨_, .bool (!b), rfl, rfl, by simp [execOp, ho, hb, Op.unary], .one (.inl (.bool _)), fun _ => trivial⟩
  | _ => simp [semP] at hs
theorem sim_ext (hi : Inv cx G a w A σ) (hkd : ∀ t, cx.kd t = fi.kind t) (hnt : cx.nt = fi.nt) {o : Oper} {i : Nat} {x : Operand} (ho : o.op = .extract x i)
    {as : List AArg} (hc : compArgs fi [x] = some as) (hd : plainDst fi o.dst = true) (hrun : runA pur call { dst := o.dst, k := .p (.ext i), args := as } A σ = some (A', σ')) : Gives P cx o a w A' σ' := by
  refine gives0 hi hkd hnt hd hrun fun vs rs he hs => ?_
  obtain ⟨y, zs, rfl, hy, hz⟩ := compArgs_cons hc
  cases hz
  obtain ⟨p, qs, rfl, hp, hq⟩ := evalArgs_cons he
  cases hq
  cases p with
  | tuple ps =>
    obtain ⟨cs, hv, hsz, hr⟩ := (arg_rep hi hkd hy hp rfl).tuple_inv
    simp only [semP] at hs
    split at hs
    · rename_i hf
      obtain ⟨q, hq, e⟩ := Option.map_eq_some_iff.1 hs
      cases e
      have hlt := (List.getElem?_eq_some_iff.1 hq).1
      have hlt' : i < cs.size := by omega
      refine ⟨_, cs.getD i undef, rfl, ?_, ?_, (RepT.one (hr i q hq)).disown, fun _ => OwnOk_disown q⟩
      · rw [free_disown]
        have : q ∈ ps := List.mem_of_getElem? hq
        have := List.all_eq_true.1 hf q this
        exact this
      · simp [execOp, ho, hv, Instr.extract, hlt', Array.getD]
    · cases hs
  | _ => simp [semP] at hs
theorem sim_chk (hi : Inv cx G a w A σ) (hkd : ∀ t, cx.kd t = fi.kind t) (hnt : cx.nt = fi.nt) {o : Oper} {x : Operand} (ho : o.op = .nilCheck x)
    {as : List AArg} (hc : compArgs fi [x] = some as) (hd : plainDst fi o.dst = true) (hrun : runA pur call { dst := o.dst, k := .p .chk, args := as } A σ = some (A', σ')) : Gives P cx o a w A' σ' := by
  refine gives0 hi hkd hnt hd hrun fun vs rs he hs => ?_
  obtain ⟨y, zs, rfl, hy, hz⟩ := compArgs_cons hc
  cases hz
  obtain ⟨p, qs, rfl, hp, hq⟩ := evalArgs_cons he
  cases hq
  cases p with
  | vptr q =>
    have h := arg_rep hi hkd hy hp rfl
    obtain ⟨b, off, cv, hv, _⟩ := h.vptr_inv
    simp only [semP] at hs
    cases hs
    exact ⟨_, a.eval x, rfl, rfl, by simp [execOp, ho, hv], h, fun _ => trivial⟩
  | ref id off =>
    have h := arg_rep hi hkd hy hp rfl
    obtain ⟨b, _, hv⟩ := h.ref_inv
    simp only [semP] at hs
    cases hs
    exact ⟨_, a.eval x, rfl, rfl, by simp [execOp, ho, hv], h, fun _ => trivial⟩
  | aptr id gen size i off =>
    have h := arg_rep hi hkd hy hp rfl
    obtain ⟨b, _, _, _, hv⟩ := h.aptr_inv
    simp only [semP] at hs
    cases hs
    exact ⟨_, a.eval x, rfl, rfl, by simp [execOp, ho, hv], h, fun _ => trivial⟩
  | func f fs cs =>
    have h := arg_rep hi hkd hy hp rfl
    obtain ⟨vs, ws, hv, _⟩ := h.func_inv
    simp only [semP] at hs
    cases hs
    exact ⟨_, a.eval x, rfl, rfl, by simp [execOp, ho, hv], h, fun _ => trivial⟩
  | _ => simp [semP] at hs
theorem sim_cvt (hi : Inv cx G a w A σ) (hkd : ∀ t, cx.kd t = fi.kind t) (hnt : cx.nt = fi.nt) {o : Oper} {s t : TypeId} {k k' : IntKind} {x : Operand} (ho : o.op = .convert s t x)
    (hs' : P.underlying s = some (.int k')) (ht : P.underlying t = some (.int k))
    {as : List AArg} (hc : compArgs fi [x] = some as) (hd : plainDst fi o.dst = true) (hrun : runA pur call { dst := o.dst, k := .p (.cvt k), args := as } A σ = some (A', σ')) : Gives P cx o a w A' σ' := by
  refine gives0 hi hkd hnt hd hrun fun vs rs he hs => ?_
  obtain ⟨y, zs, rfl, hy, hz⟩ := compArgs_cons hc
  cases hz
  obtain ⟨p, qs, rfl, hp, hq⟩ := evalArgs_cons he
  cases hq
  cases p with
  | int j n =>
    have hv := (arg_rep hi hkd hy hp rfl).int_inv
    simp only [semP] at hs
    cases hs
    exact ⟨_, .int k (k.wrap n), rfl, rfl, by simp [execOp, ho, hv, convert, underlying, hs', ht, Conv.intToInt], .one (.inl (.int _ _)), fun _ => trivial⟩
  | _ => simp [semP] at hs
end
end Go.Abs

namespace Go.Abs
open Go.RowKit
section
variable {P : Program} {pur : FuncId → Bool} {call : Caller} {fi : FI} {cx : Cx} {G : Gh} {a : Act} {w : World} {A A' : Frm} {σ σ' : Sto}
theorem args1 {xs : List Operand} {as : List AArg} (hc : compArgs fi xs = some as) {p : PV} (he : evalArgs A as = some [p]) :
    ∃ x y, xs = [x] ∧ as = [y] ∧ compArg fi x = some y ∧ evalArgs A [y] = some [p] := by
  cases xs with
  | nil => cases hc; cases he
  | cons x xs =>
    obtain ⟨y, zs, rfl, hy, hz⟩ := compArgs_cons hc
    obtain ⟨q, qs, e, hq, hqs⟩ := evalArgs_cons he
    cases e
    cases xs with
    | nil => cases hz; exact ⟨x, y, rfl, rfl, hy, hq⟩
    | cons x' xs =>
      obtain ⟨y', zs', rfl, _, _⟩ := compArgs_cons hz
      obtain ⟨_, _, e, _, _⟩ := evalArgs_cons hqs
      cases e
theorem args2 {xs : List Operand} {as : List AArg} (hc : compArgs fi xs = some as) {p q : PV} (he : evalArgs A as = some [p, q]) :
    ∃ x x' y y', xs = [x, x'] ∧ as = [y, y'] ∧ compArg fi x = some y ∧ compArg fi x' = some y' ∧ evalArgs A [y] = some [p] ∧ evalArgs A [y'] = some [q] := by
  cases xs with
  | nil => cases hc; cases he
  | cons x xs =>
    obtain ⟨y, zs, rfl, hy, hz⟩ := compArgs_cons hc
    obtain ⟨_, qs, e, hq, hqs⟩ := evalArgs_cons he
    cases e
    obtain ⟨x', y', rfl, rfl, h1, h2⟩ := args1 hz hqs
    exact ⟨x, x', y, y', rfl, rfl, hy, h1, hq, h2⟩
theorem run_eqGuard_int (op : BinOp) (t : TypeId) (x y : Operand) (k k' : IntKind) (n m : Int) : (eqGuard op t x y (.int k n) (.int k' m)).run P w = .ok () w := by
  cases op <;> rfl
theorem run_eqGuard_str (op : BinOp) (t : TypeId) (x y : Operand) (s s' : ByteArray) : (eqGuard op t x y (.string s) (.string s')).run P w = .ok () w := by
  cases op <;> rfl
theorem run_eqGuard_bool (op : BinOp) (t : TypeId) (x y : Operand) (s s' : Bool) : (eqGuard op t x y (.bool s) (.bool s')).run P w = .ok () w := by
  cases op <;> rfl
theorem run_eqGuard_func (op : BinOp) (t : TypeId) (x y : Operand) (f : Fn) (vs ws : Array Value) : (eqGuard op t x y (.func f vs ws) .nilFunc).run P w = .ok () w := by
  cases op <;> rfl
theorem run_eqGuard_nilf (op : BinOp) (t : TypeId) (x y : Operand) : (eqGuard op t x y .nilFunc .nilFunc).run P w = .ok () w := by
  cases op <;> rfl
theorem binOp_int0 (op : BinOp) (t : TypeId) (k k' : IntKind) (n m : Int) : Go.binOp op t (.int k n) (.int k' m) = Go.binOp op 0 (.int k n) (.int k' m) := by
  cases op <;> rfl
theorem run_binI {op : BinOp} {t : TypeId} {k : IntKind} {n m : Int} {p : PV} (h : binI op k n m = some p) : ∃ v, (Go.binOp op t (.int k n) (.int k m)).run P w = .ok v w ∧ Rep G.I w v p ∧ ∀ sz es, p ≠ .slice true sz es := by
  have gen : (match Go.binOp op 0 (.int k n) (.int k m) with | .pure (.int k' n) => some (PV.int k' n) | _ => none) = some p → ∃ v, (Go.binOp op t (.int k n) (.int k m)).run P w = .ok v w ∧ Rep G.I w v p ∧ ∀ sz es, p ≠ .slice true sz es := by
    intro h
    rw [binOp_int0]
    split at h
    · rename_i k' n' he
      cases h
      rw [he]
      exact ⟨_, rfl, .int _ _, by simp⟩
    · cases h
  cases op <;> simp only [binI] at h <;> first
    | exact gen h
    | (cases h; exact ⟨.int _ _, by simp [Go.binOp, Op.intArith]; rfl, .int _ _, by simp⟩)
    | (cases h; exact ⟨.int _ _, by simp [Go.binOp, Op.intArith], .int _ _, by simp⟩)
    | (cases h; exact ⟨.bool _, by simp [Go.binOp, Op.intCmp]; rfl, .bool _, by simp⟩)
    | (cases h; exact ⟨.bool _, by simp [Go.binOp, Op.intCmp], .bool _, by simp⟩)
theorem data_append (x y : ByteArray) : (x ++ y).data.toList = x.data.toList ++ y.data.toList := by
  simp
theorem run_binS {op : BinOp} {t : TypeId} {x y : ByteArray} {p : PV} (h : binS op x.data.toList y.data.toList = some p) : ∃ v, (Go.binOp op t (.string x) (.string y)).run P w = .ok v w ∧ Rep G.I w v p ∧ ∀ sz es, p ≠ .slice true sz es := by
  cases op with
  | add =>
    simp only [binS] at h
    split at h
    · rename_i hl
      cases h
      refine ⟨.string (x ++ y), ?_, ?_, by simp⟩
      · have h1 := Lib.size_eq x
        have h2 := Lib.size_eq y
        have : ¬ (((x.size + y.size : Nat) : Int) > IntKind.i64.max) := by
          unfold maxStr at hl
          have : IntKind.i64.max = 9223372036854775807 := by decide
          rw [this]; omega
        simp only [Go.binOp, Op.stringOp]
        rw [if_neg this]; rfl
      · rw [← data_append]; exact .str _
    · cases h
  | eql => cases h; exact ⟨.bool _, by simp only [Go.binOp, Op.stringOp, ByteArray.toList_eq]; rfl, .bool _, by simp⟩
  | neq => cases h; exact ⟨.bool _, by simp only [Go.binOp, Op.stringOp, ByteArray.toList_eq]; rfl, .bool _, by simp⟩
  | lss => cases h; exact ⟨.bool _, by simp only [Go.binOp, Op.stringOp, ByteArray.toList_eq]; rfl, .bool _, by simp⟩
  | leq => cases h; exact ⟨.bool _, by simp only [Go.binOp, Op.stringOp, ByteArray.toList_eq]; rfl, .bool _, by simp⟩
  | gtr => cases h; exact ⟨_, by simp only [Go.binOp, Op.stringOp, ByteArray.toList_eq]; rfl, .bool _, by simp⟩
  | geq => cases h; exact ⟨.bool _, by simp only [Go.binOp, Op.stringOp, ByteArray.toList_eq]; rfl, .bool _, by simp⟩
  | _ => simp [binS] at h
theorem run_equal_bool {t : TypeId} (ht : P.underlying t = some .bool) (x y : Bool) : (Op.equal t (.bool x) (.bool y)).run P w = .ok (x == y) w := by
  show (Op.equalIn (9999 + 1) t (.bool x) (.bool y)).run P w = _
  generalize 9999 = d
  simp [Op.equalIn, underlying, ht]
theorem run_equal_func {t : TypeId} {ps rs : Array TypeId} {va : Bool} (ht : P.underlying t = some (.func ps rs va)) (f : Fn) (vs ws : Array Value) : (Op.equal t (.func f vs ws) .nilFunc).run P w = .ok false w := by
  show (Op.equalIn (9999 + 1) t _ _).run P w = _
  generalize 9999 = d
  simp [Op.equalIn, underlying, ht]
theorem run_equal_nilf {t : TypeId} {ps rs : Array TypeId} {va : Bool} (ht : P.underlying t = some (.func ps rs va)) : (Op.equal t .nilFunc .nilFunc).run P w = .ok true w := by
  show (Op.equalIn (9999 + 1) t _ _).run P w = _
  generalize 9999 = d
  simp [Op.equalIn, underlying, ht]
theorem binOp_eql {t : TypeId} {x y : Value} {b : Bool} (h : (Op.equal t x y).run P w = .ok b w) (hx : Go.binOp .eql t x y = (do pure (.bool (← Op.equal t x y)))) : (Go.binOp .eql t x y).run P w = .ok (.bool b) w := by
  rw [hx]; simp only [Sem.run_bind, h, Result.andThen_ok, Sem.run_pure]
theorem binOp_neq {t : TypeId} {x y : Value} {b : Bool} (h : (Op.equal t x y).run P w = .ok b w) (hx : Go.binOp .neq t x y = (do pure (.bool (!(← Op.equal t x y))))) : (Go.binOp .neq t x y).run P w = .ok (.bool !b) w := by
  rw [hx]; simp only [Sem.run_bind, h, Result.andThen_ok, Sem.run_pure]
theorem run_binB {op : BinOp} {t : TypeId} (ht : P.underlying t = some .bool) {x y : Bool} {p : PV} (h : binB op x y = some p) : ∃ v, (Go.binOp op t (.bool x) (.bool y)).run P w = .ok v w ∧ Rep G.I w v p ∧ ∀ sz es, p ≠ .slice true sz es := by
  cases op with
  | eql => cases h; exact ⟨_, binOp_eql (run_equal_bool ht x y) rfl, .bool _, by simp⟩
  | neq => cases h; exact ⟨_, binOp_neq (run_equal_bool ht x y) rfl, .bool _, by simp⟩
  | _ => simp [binB] at h
theorem sim_bin (hi : Inv cx G a w A σ) (hkd : ∀ t, cx.kd t = fi.kind t) (hnt : cx.nt = fi.nt) {o : Oper} {op : BinOp} {t yt : TypeId} {x y : Operand} (ho : o.op = .binOp op t x y yt)
    {c : Nat} (hbt : c = 1 → P.underlying t = some .bool) (hft : c = 2 → ∃ ps rs v, P.underlying t = some (.func ps rs v))
    {as : List AArg} (hc : compArgs fi [x, y] = some as) (hd : plainDst fi o.dst = true) (hrun : runA pur call { dst := o.dst, k := .p (.bin op c), args := as } A σ = some (A', σ')) : Gives P cx o a w A' σ' := by
  refine gives0 hi hkd hnt hd hrun fun vs rs he hs => ?_
  obtain ⟨y1, zs, rfl, hy1, hz⟩ := compArgs_cons hc
  obtain ⟨y2, zs, rfl, hy2, hz⟩ := compArgs_cons hz
  cases hz
  obtain ⟨p1, qs, rfl, hp1, hq⟩ := evalArgs_cons he
  obtain ⟨p2, qs, rfl, hp2, hq⟩ := evalArgs_cons hq
  cases hq
  have fin : ∀ {p : PV}, (eqGuard op t x y (a.eval x) (a.eval y)).run P w = .ok () w → (∃ v, (Go.binOp op t (a.eval x) (a.eval y)).run P w = .ok v w ∧ Rep G.I w v p ∧ ∀ sz es, p ≠ .slice true sz es) → p.free = true →
      ∃ v, (execOp a.eval o).run P w = .ok (.value v) w ∧ RepT G.I G.bl w v p ∧ ∀ tag, OwnOk G w tag v p := by
    rintro p hg ⟨v, hr, hrep, hno⟩ hf
    exact ⟨v, by simp [execOp, ho, hg, hr], .one (.inl hrep), fun _ => own_none hno⟩
  simp only [semP] at hs
  split at hs
  case isFalse => cases hs
  rename_i hty
  obtain ⟨p, hb, e⟩ := Option.map_eq_some_iff.1 hs
  cases e
  suffices h : (eqGuard op t x y (a.eval x) (a.eval y)).run P w = .ok () w ∧ ∃ v, (Go.binOp op t (a.eval x) (a.eval y)).run P w = .ok v w ∧ Rep G.I w v p ∧ (∀ sz es, p ≠ .slice true sz es) by
    obtain ⟨hg, v, hr, hrep, hno⟩ := h
    have hfree : p.free = true := by cases hrep <;> rfl
    obtain ⟨v, h1, h2, h3⟩ := fin hg ⟨v, hr, hrep, hno⟩ hfree
    exact ⟨_, v, rfl, hfree, h1, h2, h3⟩
  cases p1 with
  | int k n =>
    cases p2 with
    | int k' m =>
      have e1 := (arg_rep hi hkd hy1 hp1 rfl).int_inv
      have e2 := (arg_rep hi hkd hy2 hp2 rfl).int_inv
      simp only [binV] at hb
      rw [e1, e2]
      refine ⟨run_eqGuard_int .., ?_⟩
      split at hb
      · split at hb
        · rename_i k2 n2 hb'
          cases hb
          exact ⟨.int k2 n2, by rw [binOp_int0, hb']; rfl, .int _ _, by simp⟩
        · cases hb
      · split at hb
        · rename_i hk
          subst hk
          exact run_binI hb
        · cases hb
    | _ => simp [binV] at hb
  | str l =>
    cases p2 with
    | str l' =>
      obtain ⟨s1, e1, rfl⟩ := (arg_rep hi hkd hy1 hp1 rfl).str_inv
      obtain ⟨s2, e2, rfl⟩ := (arg_rep hi hkd hy2 hp2 rfl).str_inv
      simp only [binV] at hb
      rw [e1, e2]
      exact ⟨run_eqGuard_str .., run_binS hb⟩
    | _ => simp [binV] at hb
  | bool b =>
    cases p2 with
    | bool b' =>
      have e1 := (arg_rep hi hkd hy1 hp1 rfl).bool_inv
      have e2 := (arg_rep hi hkd hy2 hp2 rfl).bool_inv
      have htb := hbt (by simpa [tyOk] using hty)
      simp only [binV] at hb
      rw [e1, e2]
      exact ⟨run_eqGuard_bool .., run_binB htb hb⟩
    | _ => simp [binV] at hb
  | func f fs cs =>
    cases p2 with
    | nilf =>
      obtain ⟨vs, ws, e1, _⟩ := (arg_rep hi hkd hy1 hp1 rfl).func_inv
      have e2 := (arg_rep hi hkd hy2 hp2 rfl).nilf_inv
      obtain ⟨ps, rs', va, htf⟩ := hft (by simpa [tyOk] using hty)
      rw [e1, e2]
      refine ⟨run_eqGuard_func .., ?_⟩
      cases op <;> simp [binV] at hb <;> subst hb
      · exact ⟨.bool false, binOp_eql (run_equal_func htf ..) rfl, .bool _, by simp⟩
      · exact ⟨.bool true, binOp_neq (run_equal_func htf ..) rfl, .bool _, by simp⟩
    | _ => simp [binV] at hb
  | nilf =>
    cases p2 with
    | nilf =>
      have e1 := (arg_rep hi hkd hy1 hp1 rfl).nilf_inv
      have e2 := (arg_rep hi hkd hy2 hp2 rfl).nilf_inv
      obtain ⟨ps, rs', va, htf⟩ := hft (by simpa [tyOk] using hty)
      rw [e1, e2]
      refine ⟨run_eqGuard_nilf .., ?_⟩
      cases op <;> simp [binV] at hb <;> subst hb
      · exact ⟨.bool true, binOp_eql (run_equal_nilf htf) rfl, .bool _, by simp⟩
      · exact ⟨.bool false, binOp_neq (run_equal_nilf htf) rfl, .bool _, by simp⟩
    | _ => simp [binV] at hb
  | _ => simp [binV] at hb
end
end Go.Abs
