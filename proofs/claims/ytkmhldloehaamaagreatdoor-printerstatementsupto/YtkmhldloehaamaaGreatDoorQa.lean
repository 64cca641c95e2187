/- A part of the proof: Q1 Q2 Q3 Q4. -/
import Derived.Test.YtkmhldloehaamaaGreatDoorWd
import Derived.Test.YtkmhldloehaamaaGreatDoorZa
import Derived.Test.YtkmhldloehaamaaGreatDoorRa
import Derived.Lib.AppendIntMem
import Derived.Lib.SplitLaws

set_option linter.unusedVariables false
set_option linter.unusedSimpArgs false
namespace Go.Abs.Z
open Go.Proofs Go.RowKit
theorem AzT {c : ACode} {ff : FF} {σ σ' : Sto} {e : AExit} (sl : List Nat) {ff' : FF} (l : List Stp) (h : (tRun pur runA c ff σ (tapeOf l) True).map (fun o => (o.e, Go.Abs.pickF sl o.ff, o.σ, o.q)) = some (e, ff', σ', qOf l True)) : Ax6 pur runA c ff σ e ff' σ' := by
  obtain ⟨o, h1, h2⟩ := Option.map_eq_some_iff.1 h;obtain ⟨e1, f1, s1, t1, q1⟩ := o;cases h2;obtain ⟨N, H⟩ := (Aj6 c h1).2 (qOf_ok l trivial);exact ⟨N, fun n hn ff0 h0 => by obtain ⟨x, a, b⟩ := H n hn ff0 h0; exact ⟨x, a, Sub.trans (Go.Abs.pickF_sub sl _) b⟩⟩
def aL : ACode → ACode | .seq x _ => x | c => c
def aR : ACode → ACode | .seq _ y => y | c => c
def aK : ACode → ACode | .block _ c => c | .loop _ c => c | c => c
def aO : ACode → List AOp | .region l => l | _ => []
def k0 : ACode := aL a1003.code
def kB : ACode := aL (aR a1003.code)
def kD0 : ACode := aL (aR (aR a1003.code))
def k3 : ACode := aL kD0
def kD : ACode := aR kD0
def k6 : ACode := aL (aR (aR (aR a1003.code)))
def k7 : ACode := aL (aR (aR (aR (aR a1003.code))))
def kE : ACode := aL (aR (aR (aR (aR (aR a1003.code)))))
def kL : ACode := aK (aK (aR (aL (aR (aR (aR (aR (aR (aR a1003.code)))))))))
def k16 : ACode := aL (aR (aR (aR (aR (aR (aR (aR a1003.code)))))))
def k11 : ACode := aL kL
def k12 : ACode := aL (aK (aL (aR (aR kL))))
def k15 : ACode := aR (aR (aR kL))
def k10 : ACode := aL (aL (aR (aR (aR (aR (aR (aR a1003.code)))))))
def k13 : ACode := aL (aR (aK (aL (aR (aR kL)))))
def k10s : ACode := .region ((aO k10).drop 2)
def k13s : ACode := .region ((aO k13).drop 2)
theorem p0 {T : Tr} {d : Int} : Ax6 pur runA k0 [(0, some T.pv), (1, some (I d))] [] .normal [(2, some (.vptr T.pv)), (1, some (I d))] [] :=
  AzT [2, 1] [st 0 (PA (bx_tr T))] (by kernel_rfl)
theorem pB_1 {T : Tr} {d : Int} {b1 : Bool} (h1 : Ev runA 4 [T.pv, (I 100)] [] (.bool false) []) (h2 : Ev runA 6 [] [] (.bool b1) []) : Ax6 pur runA kB [(2, some (.vptr T.pv)), (1, some (I d))] [] .ret [(4, some (.bool b1))] [] :=
  AzT [4] [st 0 (QA (ld_tr T)), st 0 (oCA h1), st 15 (oCA h2)] (by kernel_rfl)
theorem pB_2 {T : Tr} {d : Int} {b1 : Bool} (h1 : Ev runA 4 [T.pv, (I 100)] [] (.bool true) []) (h2 : Ev runA 5 [T.pv] [] (.bool false) []) (h3 : Ev runA 6 [] [] (.bool b1) []) : Ax6 pur runA kB [(2, some (.vptr T.pv)), (1, some (I d))] [] .ret [(4, some (.bool b1))] [] :=
  AzT [4] [st 0 (QA (ld_tr T)), st 0 (oCA h1), sg 2 (QA (ld_tr T)), sg 0 (oCA h2), st 11 (oCA h3)] (by kernel_rfl)
theorem pB_3 {T : Tr} {d : Int} {b1 : Bool} (h1 : Ev runA 4 [T.pv, (I 100)] [] (.bool true) []) (h2 : Ev runA 5 [T.pv] [] (.bool true) []) (c1 : d < 0) (h3 : Ev runA 6 [] [] (.bool b1) []) : Ax6 pur runA kB [(2, some (.vptr T.pv)), (1, some (I d))] [] .ret [(4, some (.bool b1))] [] :=
  AzT [4] [st 0 (QA (ld_tr T)), st 0 (oCA h1), sg 2 (QA (ld_tr T)), sg 0 (oCA h2), sg 4 (PA (AxH .i64 c1)), st 6 (oCA h3)] (by kernel_rfl)
theorem pB_4 {T : Tr} {d : Int} {b1 : Bool} (h1 : Ev runA 4 [T.pv, (I 100)] [] (.bool true) []) (h2 : Ev runA 5 [T.pv] [] (.bool true) []) (c1 : ¬ d < 0) (c2 : d > 10) (h3 : Ev runA 6 [] [] (.bool b1) []) : Ax6 pur runA kB [(2, some (.vptr T.pv)), (1, some (I d))] [] .ret [(4, some (.bool b1))] [] :=
  AzT [4] [st 0 (QA (ld_tr T)), st 0 (oCA h1), sg 2 (QA (ld_tr T)), sg 0 (oCA h2), sg 4 (PA (AxJ .i64 c1)), sg 3 (PA (b_gtrT .i64 c2)), st 2 (oCA h3)] (by kernel_rfl)
theorem pB_5 {T : Tr} {d : Int} (h1 : Ev runA 4 [T.pv, (I 100)] [] (.bool true) []) (h2 : Ev runA 5 [T.pv] [] (.bool true) []) (c1 : ¬ d < 0) (c2 : ¬ d > 10) : Ax6 pur runA kB [(2, some (.vptr T.pv)), (1, some (I d))] [] .normal [(2, some (.vptr T.pv)), (1, some (I d))] [] :=
  AzT [2, 1] [st 0 (QA (ld_tr T)), st 0 (oCA h1), sg 2 (QA (ld_tr T)), sg 0 (oCA h2), sg 4 (PA (AxJ .i64 c1)), sg 3 (PA (Aj2 .i64 c2))] (by kernel_rfl)
theorem p3 {T : Tr} {d : Int} {s1 : List UInt8} {z1 : Int} (h1 : Ev runA 7 [T.pv, (I d)] [] (.tuple [(.str s1), (I z1)]) []) : Ax6 pur runA k3 [(2, some (.vptr T.pv)), (1, some (I d))] [] .normal [(2, some (.vptr T.pv)), (1, some (I d)), (5, some (.str s1)), (6, some (I z1))] [] :=
  AzT [2, 1, 5, 6] [st 0 (QA (ld_tr T)), st 1 (oCA h1)] (by kernel_rfl)
theorem pD_1 {T : Tr} {z : Int} {d : Int} {b1 : Bool} (c1 : z = 8) (h1 : Ev runA 6 [] [] (.bool b1) []) : Ax6 pur runA kD [(2, some (.vptr T.pv)), (1, some (I d)), (6, some (I z))] [] .ret [(4, some (.bool b1))] [] :=
  AzT [4] [st 1 (PA (AqV .i64 c1)), st 1 (oCA h1)] (by kernel_rfl)
theorem pD_2 {T : Tr} {z : Int} {d : Int} (c1 : z ≠ 8) : Ax6 pur runA kD [(2, some (.vptr T.pv)), (1, some (I d)), (6, some (I z))] [] .normal [(2, some (.vptr T.pv)), (1, some (I d))] [] :=
  AzT [2, 1] [st 1 (PA (Aq1 .i64 c1))] (by kernel_rfl)
theorem p6 {T : Tr} {d : Int} {s1 : List UInt8} {z1 : Int} (h1 : Ev runA 8 [T.pv, (I d)] [] (.tuple [(.str s1), (I z1)]) []) : Ax6 pur runA k6 [(2, some (.vptr T.pv)), (1, some (I d))] [] .normal [(2, some (.vptr T.pv)), (1, some (I d)), (7, some (.str s1)), (8, some (I z1))] [] :=
  AzT [2, 1, 7, 8] [st 0 (QA (ld_tr T)), st 1 (oCA h1)] (by kernel_rfl)
theorem p7 {T : Tr} {sb : List UInt8} {d : Int} {U1 : Tr} {dl1 : List Dg} {z1 : Int} {σ1 : Sto} (h1 : Ev runA 9 [(.str sb)] [] (.tuple [U1.pv, (.slice false 5 (dl1.map Dg.pv)), (I z1)]) σ1) : Ax6 pur runA k7 [(2, some (.vptr T.pv)), (1, some (I d)), (7, some (.str sb)), (8, some (I 0))] [] .normal [(2, some (.vptr T.pv)), (1, some (I d)), (7, some (.str sb)), (8, some (I 0)), (9, some (.vptr U1.pv)), (10, some (.slice false 5 (dl1.map Dg.pv))), (11, some (I z1))] [] :=
  AzT [2, 1, 7, 8, 9, 10, 11] [st 1 (oCA h1), st 1 (op_p (Ak2 0 (by rfl) (by simp)) : OpEv pur runA (.p (.ext 0)) [(.tuple [U1.pv, (.slice false 5 (dl1.map Dg.pv)), (I z1)])] [] [some U1.pv] []), st 0 (op_p (Ak2 1 (by rfl) (by simp)) : OpEv pur runA (.p (.ext 1)) [(.tuple [U1.pv, (.slice false 5 (dl1.map Dg.pv)), (I z1)])] [] [some (.slice false 5 (dl1.map Dg.pv))] []), st 0 (op_p (Ak2 2 (by rfl) (by simp)) : OpEv pur runA (.p (.ext 2)) [(.tuple [U1.pv, (.slice false 5 (dl1.map Dg.pv)), (I z1)])] [] [some (I z1)] []), st 1 (PA (AxC U1))] (by kernel_rfl)
theorem pE {T : Tr} {sb : List UInt8} {U : Tr} {d : Int} (h1 : Ev runA 10 [U.pv, T.pv] [] (.bool true) []) : Ax6 pur runA kE [(2, some (.vptr T.pv)), (1, some (I d)), (7, some (.str sb)), (8, some (I 0)), (9, some (.vptr U.pv)), (10, some (.slice false 5 [])), (11, some (I 0))] [] .normal [(2, some (.vptr T.pv)), (1, some (I d)), (7, some (.str sb))] [] :=
  AzT [2, 1, 7] [sg 12 (QA (ld_tr U)), sg 0 (QA (ld_tr T)), sg 0 (oCA h1)] (by kernel_rfl)
theorem p11 {T : Tr} {m i : Nat} {d : Int} : Ax6 pur runA k11 [(2, some (.vptr T.pv)), (1, some (I d)), (71, some (N m)), (72, some (N i))] [] .normal [(2, some (.vptr T.pv)), (1, some (I d)), (71, some (N m)), (72, some (N i)), (73, some (.bool (decide (((i : Nat) : Int) < ((m : Nat) : Int)))))] [] :=
  AzT [2, 1, 71, 72, 73] [] (by kernel_rfl)
theorem p15 {T : Tr} {m i : Nat} {d : Int} (l1 : i < 4611686018427387904) : Ax6 pur runA k15 [(2, some (.vptr T.pv)), (1, some (I d)), (71, some (N m)), (72, some (N i))] [] .normal [(2, some (.vptr T.pv)), (1, some (I d)), (71, some (N m)), (72, some (N (i + 1)))] [] :=
  AzT [2, 1, 71, 72] [st 0 (PA (AxW (i) 1 l1 (by decide)))] (by kernel_rfl)
theorem p13_3 {T : Tr} {i : Nat} {l u : List UInt8} {d : Int} {c4 : UInt8} (c1 : u ≠ []) (c2 : ¬ ((i : Nat) : Int) > 0) (c3 : ((i : Nat) : Int) = 0) (g1 : (l : List UInt8)[0]? = some c4) : Ax6 pur runA k13s [(2, some (.vptr T.pv)), (1, some (I d)), (12, some (N i)), (13, some (.str l)), (78, some (.str u))] [] .normal [(2, some (.vptr T.pv)), (1, some (I d)), (99, some (.bool (((c4.toNat : Nat) : Int) == 32)))] [] :=
  AzT [2, 1, 99] [st 0 (PA (s_eqlF c1)), sg 2 (PA (Aj2 .i64 c2)), sg 10 (PA (AqV .i64 c3)), sg 2 (PA (AzO _ (0) _ g1))] (by kernel_rfl)
theorem p13_6 {T : Tr} {i : Nat} {l u : List UInt8} {d : Int} {s1 : List UInt8} (c1 : u ≠ []) (c2 : ((i : Nat) : Int) > 0) (h1 : Ev runA 14 [(.str [32, 32]), (I d)] [] (.str s1) []) (h2 : Ev runA 13 [(.str l), (.str s1)] [] (.bool true) []) (c3 : ((i : Nat) : Int) ≠ 0) : Ax6 pur runA k13s [(2, some (.vptr T.pv)), (1, some (I d)), (12, some (N i)), (13, some (.str l)), (78, some (.str u))] [] .normal [(2, some (.vptr T.pv)), (1, some (I d)), (99, some (.bool false))] [] :=
  AzT [2, 1, 99] [st 0 (PA (s_eqlF c1)), sg 2 (PA (b_gtrT .i64 c2)), sg 3 (oCA h1), sg 0 (oCA h2), sg 5 (PA (Aq1 .i64 c3))] (by kernel_rfl)
theorem p16 {T : Tr} {b1 : Bool} (h1 : Ev runA 6 [] [] (.bool b1) []) : Ax6 pur runA k16 [(2, some (.vptr T.pv))] [] .normal [(4, some (.bool b1))] [] :=
  AzT [4] [st 0 (oCA h1)] (by kernel_rfl)
theorem p12 {T : Tr} {d : Int} {m i : Nat} {ls : List (List UInt8)} {l : List UInt8} (h : ls[i]? = some l) : Ax6 pur runA k12 [(2, some (.vptr T.pv)), (1, some (I d)), (71, some (N m)), (72, some (N i)), (70, some (.slice false 1 (ls.map PV.str)))] [] .normal [(2, some (.vptr T.pv)), (1, some (I d)), (71, some (N m)), (72, some (N i)), (12, some (N i)), (13, some (.str l))] [] :=
  AzT [2, 1, 71, 72, 12, 13] [st 1 (PA (p_idx false 1 i (ls.map PV.str) (.str l) (by rw [List.getElem?_map, h]; rfl)))] (by kernel_rfl)
theorem p10 {T : Tr} {d : Int} {ls : List (List UInt8)} : Ax6 pur runA k10s [(2, some (.vptr T.pv)), (1, some (I d)), (70, some (.slice false 1 (ls.map PV.str)))] [] .normal [(2, some (.vptr T.pv)), (1, some (I d)), (70, some (.slice false 1 (ls.map PV.str))), (71, some (N (ls.map PV.str).length)), (72, some (N 0))] [] :=
  AzT [2, 1, 70, 71, 72] [] (by kernel_rfl)
theorem R1009 : Rn 9 a1009 := fun _ _ _ => rfl
theorem r1009_2 {s : List UInt8} {ls : List Tk} {U1 : Tr} {k1 : Nat} {p1 : Nat} {D1 : List PV} {dl1 : List Dg} {k2 : Nat} {p2 : Nat} {D2 : List PV} (c1 : ¬ (((s).length : Nat) : Int) > 4096) (h1 : E 28 [.str s] [] (.ref 0 0) [pc s ls 0 0 []]) (h2 : E 29 [(.ref 0 0)] [pc s ls 0 0 []] U1.pv [pc s ls k1 p1 D1]) (h3 : E 30 [(.ref 0 0)] [pc s ls k1 p1 D1] (.slice false 5 (dl1.map Dg.pv)) [pc s ls k2 p2 D2]) : E 9 [(.str s)] [] (.tuple [U1.pv, (.slice false 5 (dl1.map Dg.pv)), (I 0)]) [pc s ls k2 p2 D2] :=
  ruleO R1009 [st 5 (P (Aj2 .i64 c1)), st 2 (oW h1), st 2 (oW h2), st 1 (PS [pc s ls k1 p1 D1] (AxC U1)), st 0 (PS [pc s ls k1 p1 D1] (ldp_tr U1)), st 1 (oW h3), st 0 (PS [pc s ls k2 p2 D2] (stl_lit (I 0) (.str []) (I 0) (I 0) .nils U1))] (by simp [AzJ, packR] : (resK [(2, some U1.pv), (3, some (.slice false 5 (dl1.map Dg.pv))), (4, some (I 0))] [(2, (some 5)), (3, none), (4, none)]).bind packR = some (.tuple [U1.pv, (.slice false 5 (dl1.map Dg.pv)), (I 0)])) (by kernel_rfl)
end Go.Abs.Z

namespace Go.Abs.Z
open Go.Proofs Go.RowKit
set_option linter.unusedVariables false
set_option linter.unusedSimpArgs false
def xL : Code → Code | .seq x _ => x | c => c
def xR : Code → Code | .seq _ y => y | c => c
def xT : Code → Code | .cond _ x _ => x | c => c
def xK : Code → Code | .block _ c => c | .loop c => c | c => c
noncomputable def code3 : Code := Tryz.f3.body.getD .skip
noncomputable def g0 : Code := xL code3
noncomputable def gB : Code := xL (xR code3)
noncomputable def gD0 : Code := xL (xR (xR code3))
noncomputable def g3 : Code := xL gD0
noncomputable def gD : Code := xR gD0
noncomputable def g6 : Code := xL (xR (xR (xR code3)))
noncomputable def g7 : Code := xL (xR (xR (xR (xR code3))))
noncomputable def gE : Code := xL (xR (xR (xR (xR (xR code3)))))
noncomputable def g10 : Code := xL (xL (xR (xR (xR (xR (xR (xR code3)))))))
noncomputable def gL : Code := xK (xK (xR (xL (xR (xR (xR (xR (xR (xR code3)))))))))
noncomputable def g16 : Code := xL (xR (xR (xR (xR (xR (xR (xR code3)))))))
noncomputable def g11 : Code := xL gL
noncomputable def g12 : Code := xL (xK (xL (xR (xR gL))))
noncomputable def g13 : Code := xL (xR (xK (xL (xR (xR gL)))))
noncomputable def g99 : Code := xR (xR (xK (xL (xR (xR gL)))))
noncomputable def g15 : Code := xR (xR (xR gL))
theorem shape3 : code3 = .seq g0 (.seq gB (.seq (.seq g3 gD) (.seq g6 (.seq g7 (.seq gE (.seq (.seq g10 (.block 0 (.loop gL))) (.seq g16 .ret))))))) := rfl
theorem shapeL : gL = .seq g11 (.seq (.cond (.tmp 73) .skip (.exit 0)) (.seq (.block 1 (.seq g12 (.seq g13 (.cond (.tmp 99) (.seq (xL (xT g99)) .ret) .skip)))) g15)) := rfl
theorem ok3i : AzA.okB = true := by kernel_rfl
theorem q0 : comp Tryz.prog pur AzA g0 = some k0 ∧ AxR 102 k0 = true := ⟨by kernel_rfl, by kernel_rfl⟩
theorem qB : comp Tryz.prog pur AzA gB = some kB ∧ AxR 102 kB = true := ⟨by kernel_rfl, by kernel_rfl⟩
theorem q3 : comp Tryz.prog pur AzA g3 = some k3 ∧ AxR 102 k3 = true := ⟨by kernel_rfl, by kernel_rfl⟩
theorem qD : comp Tryz.prog pur AzA gD = some kD ∧ AxR 102 kD = true := ⟨by kernel_rfl, by kernel_rfl⟩
theorem q6 : comp Tryz.prog pur AzA g6 = some k6 ∧ AxR 102 k6 = true := ⟨by kernel_rfl, by kernel_rfl⟩
theorem q7 : comp Tryz.prog pur AzA g7 = some k7 ∧ AxR 102 k7 = true := ⟨by kernel_rfl, by kernel_rfl⟩
theorem qE : comp Tryz.prog pur AzA gE = some kE ∧ AxR 102 kE = true := ⟨by kernel_rfl, by kernel_rfl⟩
theorem q16 : comp Tryz.prog pur AzA g16 = some k16 ∧ AxR 102 k16 = true := ⟨by kernel_rfl, by kernel_rfl⟩
theorem q11 : comp Tryz.prog pur AzA g11 = some k11 ∧ AxR 102 k11 = true := ⟨by kernel_rfl, by kernel_rfl⟩
theorem q12 : comp Tryz.prog pur AzA g12 = some k12 ∧ AxR 102 k12 = true := ⟨by kernel_rfl, by kernel_rfl⟩
theorem q15 : comp Tryz.prog pur AzA g15 = some k15 ∧ AxR 102 k15 = true := ⟨by kernel_rfl, by kernel_rfl⟩
def SimF (cx : Cx) (ff : FF) (a : Act) (W : World) : Prop := ∃ A, Rel 102 ff A ∧ Sim cx a W A []
abbrev cxW (K : Nat → Prop) (G : Gh) (W : World) : Cx := mkCx AzA ok3i K G W
theorem step {K : Nat → Prop} {G : Gh} {W0 : World} {c : Code} {ac : ACode} (hc : comp Tryz.prog pur AzA c = some ac ∧ AxR 102 ac = true) {ff ff' : FF} {e : AExit} (h : Ax6 pur runA ac ff [] e ff' []) {a : Act} {W : World} (hs : SimF (cxW K G W0) ff a W) {n : Nat} {Q : Exit → Act → World → Prop}
    (hq : ∀ a' W', SimF (cxW K G W0) ff' a' W' → (∀ t, AzN t c = true → at' a' t = at' a t) → Q e.ex a' W') : c.wpIn (FW none) n Tryz.prog Q a W := by
  obtain ⟨N, H⟩ := h;obtain ⟨A, hr, hs⟩ := hs;obtain ⟨ff1, h1, h2⟩ := H N (Nat.le_refl _) ff (Sub.refl _);obtain ⟨A', h3, h4⟩ := arunK_sim ac ff A [] _ _ _ hc.2 hr h1;exact code_sound (runA_sound N) (cxOk ok3i K G W0) mixed c ac hc.1 N A [] _ A' [] h3 a W hs Q fun a' W' hs' hf => hq a' W' ⟨A', ⟨h4.len, fun t v hv => h4.get t v (h2 t v hv)⟩, hs'⟩ hf
theorem SimF.rep {cx : Cx} {ff : FF} {a : Act} {W : World} (hs : SimF cx ff a W) {t : Nat} {p : PV} (hk : (cx.kd t).val = true) (hf : p.free = true) (h : getK ff t = some p) : ∃ G A, Inv cx G a W A [] ∧ RepT G.I G.bl W (at' a t) p ∧ OwnOk G W (.slot t none) (at' a t) p := by
  obtain ⟨A, hr, G, hi⟩ := hs;have := (AqR hk hf).1 (hi.slot t p (hr.get t p h));exact ⟨G, A, hi, this⟩
theorem SimF.int {cx : Cx} {ff : FF} {a : Act} {W : World} (hs : SimF cx ff a W) {t : Nat} {k : IntKind} {x : Int} (hk : (cx.kd t).val = true) (h : getK ff t = some (.int k x)) : at' a t = .int k x := by
  obtain ⟨G, A, _, h1, _⟩ := hs.rep hk rfl h;exact h1.AxV
theorem SimF.bool {cx : Cx} {ff : FF} {a : Act} {W : World} (hs : SimF cx ff a W) {t : Nat} {x : Bool} (hk : (cx.kd t).val = true) (h : getK ff t = some (.bool x)) : at' a t = .bool x := by
  obtain ⟨G, A, _, h1, _⟩ := hs.rep hk rfl h;exact h1.AjC
theorem SimF.sz {K : Nat → Prop} {G : Gh} {W0 : World} {ff : FF} {a : Act} {W : World} (hs : SimF (cxW K G W0) ff a W) : a.tmps.size = 102 ∧ a.defers = [] := by
  obtain ⟨A, _, G, hi⟩ := hs;exact ⟨hi.size, hi.defers⟩
theorem SimF.below {W0 : World} {G : Gh} {ff : FF} {a : Act} {W : World} (hs : SimF (cxW (fun b => b < W0.heap.size) G W0) ff a W) : Below W0.heap.size W0 W := by
  obtain ⟨A, _, G, hi⟩ := hs;have hb := hi.base;exact ⟨hb.os, hb.tape, hb.output, hb.grow, fun k hk => hb.keep k hk⟩
theorem fresh {K : Nat → Prop} {G : Gh} {a : Act} {W : World} (hsz : a.tmps.size = 102) (hdf : a.defers = []) (h1 : ∀ b x, G.I b x → b < W.heap.size) (h2 : ∀ b tag, G.ω b = some tag → b < W.heap.size ∧ ¬ K b) (h3 : ∀ b, K b → b < W.heap.size) (h4 : G.bl = [])
    {ff : FF} (hff : ∀ t p, getK ff t = some p → t < 102 ∧ (AzA.kind t).val = true ∧ p.free = true ∧ RepT G.I [] W (at' a t) p ∧ OwnOk G W (.slot t none) (at' a t) p) : SimF (cxW K G W) ff a W := by
  refine ⟨(List.range 102).map (getK ff), ⟨by simp, fun t p hp => ?_⟩, G, hdf, hsz, (by rw [List.length_map, List.length_range]; exact Nat.le_refl 102), ⟨fun _ _ => rfl, Same.refl _ _, fun _ _ h => h, fun _ _ h => .inl h, h1, h2, h3, Nat.le_refl _, List.prefix_rfl, rfl, rfl, rfl⟩, fun t p hp => ?_, fun id cs h => by simp at h, by rw [h4]; rfl⟩
  · have := (hff t p hp).1;simp [Frm.get, this, hp]
  · have hp' : getK ff t = some p := by
      unfold Frm.get at hp;rw [List.getElem?_map] at hp
      by_cases ht : t < 102
      · simp [List.getElem?_range ht] at hp
        exact hp
      · simp [List.getElem?_eq_none (show (List.range 102).length ≤ t by simp; omega)] at hp
    obtain ⟨_, g2, g3, g4, g5⟩ := hff t p hp';rw [AqR g2 g3];exact ⟨by rw [h4]; exact g4, g5⟩
theorem getK_mem : ∀ {ff : FF} {t : Nat} {p : PV}, getK ff t = some p → (t, some p) ∈ ff
  | (s, q) :: ff, t, p, h => by
    have h' : cond (Nat.beq s t) q (getK ff t) = some p := h;cases hb : Nat.beq s t with
    | true =>
      rw [hb] at h';have : s = t := Nat.eq_of_beq_eq_true hb;subst this;have h'' : q = some p := h';rw [h'']; exact List.mem_cons_self ..
    | false => rw [hb] at h'; exact List.mem_cons_of_mem _ (getK_mem h')
def Pin (S : List Nat) (a a' : Act) : Prop := ∀ t ∈ S, at' a' t = at' a t
theorem Pin.trans {S : List Nat} {a b c : Act} (h : Pin S a b) (k : Pin S b c) : Pin S a c := fun t ht => (k t ht).trans (h t ht)
theorem stepP (S : List Nat) {K : Nat → Prop} {G : Gh} {W0 : World} {c : Code} {ac : ACode} (hS : (S.all fun t => AzN t c) = true) (hc : comp Tryz.prog pur AzA c = some ac ∧ AxR 102 ac = true) {ff ff' : FF} {e : AExit} (h : Ax6 pur runA ac ff [] e ff' []) {a : Act} {W : World} (hs : SimF (cxW K G W0) ff a W) {n : Nat} {Q : Exit → Act → World → Prop}
    (hq : ∀ a' W', SimF (cxW K G W0) ff' a' W' → Pin S a a' → Q e.ex a' W') : c.wpIn (FW none) n Tryz.prog Q a W :=
  step hc h hs fun a' W' hs' hf => hq a' W' hs' fun t ht => hf t (List.all_eq_true.1 hS t ht)
abbrev cxA (W : World) : Cx := cxW (fun b => b < W.heap.size) ⟨IW W, fun _ => none, []⟩ W
theorem fresh0 {a : Act} {W : World} (hsz : a.tmps.size = 102) (hdf : a.defers = []) (ff : List (Nat × PV)) (h : ∀ x ∈ ff, x.1 < 102 ∧ (AzA.kind x.1).val = true ∧ x.2.free = true ∧ RepT (IW W) [] W (at' a x.1) x.2 ∧ ∀ s e, x.2 ≠ .slice true s e) : SimF (cxA W) (ff.map fun x => (x.1, some x.2)) a W := by
  refine fresh hsz hdf (fun b x h => h) (fun b tag h => by cases h) (fun b h => h) rfl fun t p hp => ?_
  obtain ⟨x, hx, e⟩ := List.mem_map.1 (getK_mem hp);cases e;obtain ⟨g1, g2, g3, g4, g5⟩ := h x hx;exact ⟨g1, g2, g3, g4, own_none fun s e => g5 s e⟩
theorem getK_pre : ∀ (A B : FF) (t : Nat) (v : PV), getK A t = some v → getK (A ++ B) t = some v
  | (s, q) :: A, B, t, v, h => by
    have h' : cond (Nat.beq s t) q (getK A t) = some v := h;show cond (Nat.beq s t) q (getK (A ++ B) t) = some v;cases hb : Nat.beq s t with
    | true => rw [hb] at h'; exact h'
    | false => rw [hb] at h'; exact getK_pre A B t v h'
theorem SimF.pre {cx : Cx} {A B : FF} {a : Act} {W : World} (hs : SimF cx (A ++ B) a W) : SimF cx A a W := by
  obtain ⟨F, hr, h⟩ := hs;exact ⟨F, ⟨hr.len, fun t v hv => hr.get t v (getK_pre A B t v hv)⟩, h⟩
section
variable {o : Oper} {a : Act} {W : World} {x y : Operand}
theorem run_move (ho : o.op = .move x) : (execOp a.eval o).run Tryz.prog W = .ok (.value (a.eval x)) W := by simp [execOp, ho]
end
theorem opsIn_cons {n : Nat} {ops : Array Oper} {Q : Exit → Act → World → Prop} {i : Nat} {rest : List Nat} {o : Oper} {a : Act} {W : World} (h : ops[i]? = some o) (hg : o.guard = none) (hd : ∀ c, o.op ≠ .defer c) {v : Value} (hr : (execOp a.eval o).run Tryz.prog W = .ok (.value v) W)
    (hk : wpOpsIn (FW none) n Tryz.prog ops Q rest (a.put o.dst v) W) : wpOpsIn (FW none) n Tryz.prog ops Q (i :: rest) a W := by
  rw [wpOpsIn_cons];unfold wpOpIn;rw [h];dsimp only;rw [if_pos (by simp [Region.wanted, hg])]
  exact opIn_value hd hr hk
theorem put_size (a : Act) (d : Option Nat) (v : Value) : (a.put d v).tmps.size = a.tmps.size := by
  cases d <;> simp [Act.put]
theorem put_defers (a : Act) (d : Option Nat) (v : Value) : (a.put d v).defers = a.defers := by
  cases d <;> rfl
theorem opsIn_call {n : Nat} {ops : Array Oper} {Q : Exit → Act → World → Prop} {i : Nat} {rest : List Nat} {o : Oper} {a : Act} {W : World} (h : ops[i]? = some o) (hg : o.guard = none) {c : Call} (ho : o.op = .call c) {f : FuncId} (hcal : c.callee = .value (.func f)) (hent : AzB Tryz.prog f) {R : Ending → World → Prop}
    (hcl : Calls Tryz.prog f (c.args.map a.eval) W R) (hk : ∀ e W', R e W' → ∃ v, e = .returned v ∧ wpOpsIn (FW none) n Tryz.prog ops Q rest (a.put o.dst v) W') : wpOpsIn (FW none) n Tryz.prog ops Q (i :: rest) a W := by
  rw [wpOpsIn_cons];unfold wpOpIn;rw [h];dsimp only;rw [if_pos (by simp [Region.wanted, hg])]
  refine wpIn_enter ho hcal (fs := #[]) (cs := #[]) rfl hent ((AzQ ?_).mono hk)
  simpa using hcl
theorem stepS {K : Nat → Prop} {G : Gh} {W0 : World} {id : Nat} {ops : Array Oper} {aos : List AOp} (hc : comp Tryz.prog pur AzA (.region id ops false) = some (.region aos)) (k : Nat) (hk : k ≤ ops.size) (hok : AxR 102 (.region (aos.drop k)) = true) {ff ff' : FF}
    (h : Ax6 pur runA (.region (aos.drop k)) ff [] .normal ff' []) {a : Act} {W : World} (hs : SimF (cxW K G W0) ff a W) {n : Nat} {Q : Exit → Act → World → Prop} (S : List Nat) (hS : (S.all fun t => AzN t (.region id ops false)) = true)
    (hq : ∀ a' W', SimF (cxW K G W0) ff' a' W' → Pin S a a' → Q .normal a' W') : wpOpsIn (FW none) n Tryz.prog ops Q (List.range' k (ops.size - k)) a W := by
  obtain ⟨N, H⟩ := h;obtain ⟨A, hr, hs⟩ := hs;obtain ⟨ff1, h1, h2⟩ := H N (Nat.le_refl _) ff (Sub.refl _);obtain ⟨A', h3, h4⟩ := arunK_sim _ ff A [] _ _ _ hok hr h1;simp only [comp] at hc;obtain ⟨as', has, e⟩ := Option.map_eq_some_iff.1 hc;cases e;unfold compRegion at has
  split at has
  · rename_i as'' hl;simp only [Bool.false_eq_true, if_false] at has;cases has;obtain ⟨hlen, hspec⟩ := compList_spec _ _ _ hl;simp only [arun] at h3;obtain ⟨⟨A1, σ1⟩, h5, e1⟩ := Option.map_eq_some_iff.1 h3;cases e1
    refine ops_sound (runA_sound N) (cxOk ok3i K G W0) (by simpa using hlen) (fun i o ao ho ha => hspec i o ao (by rw [Array.getElem?_toList]; exact ho) ha) (S := fun t => t ∈ S) (fun t ht i o ho => ?_) (a0 := a)
      (fun a' w' hs' hf' => hq a' w' ⟨A', ⟨h4.len, fun t v hv => h4.get t v (h2 t v hv)⟩, hs'⟩ hf') (ops.size - k) k (by omega) A [] h5 a W hs (fun _ _ => rfl)
    have h6 := List.all_eq_true.1 hS t ht;simp only [AzN] at h6;have := List.all_eq_true.1 h6 o (List.mem_of_getElem? (by rw [Array.getElem?_toList]; exact ho))
    simpa using this
  · cases has
theorem at_put {a : Act} {d : Nat} {v : Value} (h : a.tmps.size = 102) (hd : d < 102) (t : Nat) : at' (a.put (some d) v) t = if d = t then v else at' a t := by
  by_cases e : d = t
  · subst e; rw [if_pos rfl]; exact AzM _ _ _ (by omega)
  · rw [if_neg e]; exact AzE _ _ _ _ (fun h => e (Option.some.inj h))
theorem q10 : comp Tryz.prog pur AzA g10 = some (.region (aO k10)) ∧ AxR 102 k10s = true := ⟨by kernel_rfl, by kernel_rfl⟩
theorem q13 : comp Tryz.prog pur AzA g13 = some (.region (aO k13)) ∧ AxR 102 k13s = true := ⟨by kernel_rfl, by kernel_rfl⟩
theorem ent11 : AzB Tryz.prog 11 := ⟨Tryz.f11, Tryz.func11, by kernel_rfl, by kernel_rfl⟩
theorem ent12 : AzB Tryz.prog 12 := ⟨Tryz.f12, Tryz.func12, by kernel_rfl, by kernel_rfl⟩
end Go.Abs.Z

namespace Go.Abs.Z
open Go.Proofs Go.RowKit
set_option linter.unusedVariables false
set_option linter.unusedSimpArgs false
structure Lq (W1 : World) (v2 : Value) (d : Int) (sv : Value) (m : Nat) (a : Act) (W : World) (i : Nat) : Prop where
  sz : a.tmps.size = 102
  df : a.defers = []
  h2 : at' a 2 = v2
  h1 : at' a 1 = .int .i64 d
  h70 : at' a 70 = sv
  h71 : at' a 71 = .int .i64 m
  h72 : at' a 72 = .int .i64 i
  bel : Below W1.heap.size W1 W
def LineOk (r : List UInt8) (i : Nat) (l : List UInt8) : Prop :=
  l.length ≤ 1000000 ∧ Lib.trimSpace l ≠ [] ∧ (∀ b ∈ l, b.toNat < 128) ∧ (i = 0 → ∃ c, l[0]? = some c ∧ ((c.toNat : Nat) : Int) ≠ 32) ∧ (0 < i → Lib.hasPrefix l r = true)
theorem e170 (l r : List UInt8) : Ev runA 13 [.str l, .str r] [] (.bool (Lib.hasPrefix l r)) [] := evA (ev_at 1 fun m _ => rfl)
theorem rep_strs {I : Imm} {W : World} {b n : Nat} {l : List ByteArray} {e : TypeId} (hI : ∀ j, I b (some j)) (hn : n = l.length) (hh : W.heap[b]? = some (.cells (l.map Value.string).toArray e (0, 0))) :
    Rep I W (.slice (some ⟨b, 0, none⟩) n n) (.slice false 1 ((l.map fun x => x.data.toList).map PV.str)) := by
  have key : ∀ (i : Nat) (e : PV) (j : Nat) (p : PV), ((l.map fun x => x.data.toList).map PV.str)[i]? = some e → e.cells[j]? = some p → j = 0 ∧ ∃ x, l[i]? = some x ∧ p = .str x.data.toList ∧ e = .str x.data.toList := by
    intro i e j p he hp;rw [List.getElem?_map, List.getElem?_map] at he
    obtain ⟨y, hy, rfl⟩ := Option.map_eq_some_iff.1 he;obtain ⟨x, hx, rfl⟩ := Option.map_eq_some_iff.1 hy;cases j with
    | zero => exact ⟨rfl, x, hx, by simpa [PV.cells] using hp.symm, rfl⟩
    | succ j => simp [PV.cells] at hp
  refine .slice (fun i _ => .string ((l[i]?).getD ByteArray.empty)) (by simp [hn]) (Nat.le_refl _) (fun _ => rfl) (fun i e he => ?_) (fun i e j p he hp => hI _) (fun i e j p he hp => ?_) (fun i e j p he hp => ?_)
  · rw [List.getElem?_map] at he
    obtain ⟨x, _, rfl⟩ := Option.map_eq_some_iff.1 he;rfl
  · obtain ⟨rfl, x, hx, _⟩ := key i e j p he hp;simp [World.cell?, hh, hx]
  · obtain ⟨rfl, x, hx, rfl, _⟩ := key i e j p he hp;rw [hx]; exact .str _
noncomputable def ops13 : Array Oper := match g13 with | .region _ o _ => o | _ => #[]
theorem g13_eq : g13 = .region 13 ops13 false := rfl
theorem ops13_size : ops13.size = 23 := rfl
theorem o13_0 : ∃ o, ops13[0]? = some o ∧ o.guard = none ∧ o.op = .move (.tmp 13) ∧ o.dst = some 77 := ⟨_, rfl, rfl, rfl, rfl⟩
theorem o13_1 : ∃ o c, ops13[1]? = some o ∧ o.guard = none ∧ o.op = .call c ∧ c.callee = .value (.func 12) ∧ c.args = #[.tmp 77] ∧ o.dst = some 78 := ⟨_, _, rfl, rfl, rfl, rfl, rfl, rfl⟩
theorem trim13 {n : Nat} {Q : Exit → Act → World → Prop} {a : Act} {W : World} (hsz : a.tmps.size = 102) (hdf : a.defers = []) {lB : ByteArray} (e13 : at' a 13 = .string lB) (hl : lB.data.toList.length ≤ 1000000) (hasc : ∀ b ∈ lB.data.toList, b.toNat < 128) (htab : Lib.TabIs Tryz.prog W "strings.asciiSpace" .u8 Lib.asciiSpaceTab)
    (hk : ∀ a' W', a'.tmps.size = 102 → a'.defers = [] → (∀ t, t ≠ 77 → t ≠ 78 → at' a' t = at' a t) → at' a' 78 = .string ⟨(Lib.trimSpace lB.data.toList).toArray⟩ → Below W.heap.size W W' → wpOpsIn (FW none) n Tryz.prog ops13 Q (List.range' 2 (ops13.size - 2)) a' W') : g13.wpIn (FW none) n Tryz.prog Q a W := by
  rw [g13_eq];refine wpIn_region ?_
  rw [ops13_size] at hk ⊢;have hr : List.range 23 = 0 :: 1 :: List.range' 2 21 := by decide
  rw [hr];clear hr;obtain ⟨o, h1, h2, h3, h4⟩ := o13_0;obtain ⟨o', c, k1, k2, k3, k4, k5, k6⟩ := o13_1;have s77 : (a.put o.dst (a.eval (.tmp 13))).tmps.size = 102 := by rw [put_size]; exact hsz
  have g77 : ∀ t, at' (a.put o.dst (a.eval (.tmp 13))) t = if 77 = t then a.eval (.tmp 13) else at' a t := fun t => by rw [h4]; exact at_put hsz (by decide) t
  refine opsIn_cons h1 h2 (by intro c h; rw [h3] at h; cases h) (run_move h3) ?_
  have hcall := Tryz.strings_TrimSpace lB W (by rw [Lib.size_eq]; omega) (fun j b hb => hasc b (List.mem_of_getElem? hb)) htab
  refine opsIn_call k1 k2 k3 k4 ent12 (R := fun e w' => e = .returned (.string ⟨(Lib.trimSpace lB.data.toList).toArray⟩) ∧ w' = Lib.bytesWorld W 5 lB) ?_ ?_
  · rw [k5];have : (a.put o.dst (a.eval (.tmp 13))).eval (.tmp 77) = .string lB := (g77 77).trans (by rw [if_pos rfl]; exact e13)
    have e2 : (#[Operand.tmp 77].map (a.put o.dst (a.eval (.tmp 13))).eval) = #[.string lB] := by simp [this]
    rw [e2]; exact hcall
  rintro e U3 ⟨rfl, rfl⟩
  refine ⟨_, rfl, hk _ _ (by rw [put_size]; exact s77) (by rw [put_defers, put_defers]; exact hdf) (fun t n1 n2 => ?_) ?_ ⟨rfl, rfl, rfl, by rw [Lib.bytesWorld_size]; omega, fun j hj => Lib.bytesWorld_at_old W 5 lB j hj⟩⟩
  · rw [k6, at_put s77 (by decide), if_neg (Ne.symm n2), g77, if_neg (Ne.symm n1)]
  · rw [k6, at_put s77 (by decide), if_pos rfl]
section
variable {W1 : World} {v2 sv : Value} {d : Int} {m : Nat} {T : Tr} {I1 : Imm} {ls : List (List UInt8)} {r : List UInt8} {a : Act} {W : World} {i : Nat}
theorem Lq.next (h : Lq W1 v2 d sv m a W i) {ff : FF} {a' : Act} {W' : World} (hs : SimF (cxA W) ff a' W') (hp : Pin [2, 1, 70, 71, 72] a a') : Lq W1 v2 d sv m a' W' i :=
  ⟨hs.sz.1, hs.sz.2, (hp 2 (by simp)).trans h.h2, (hp 1 (by simp)).trans h.h1, (hp 70 (by simp)).trans h.h70, (hp 71 (by simp)).trans h.h71, (hp 72 (by simp)).trans h.h72, h.bel.trans (hs.below.mono h.bel.size)⟩
theorem Lq.base (h : Lq W1 v2 d sv m a W i) (hI : ∀ b x, I1 b x → b < W1.heap.size) (hT : Rep I1 W1 v2 (.vptr T.pv)) {x : Nat × PV} (hx : x ∈ [(2, PV.vptr T.pv), (1, I d), (71, N m), (72, N i)]) :
    x.1 < 102 ∧ (AzA.kind x.1).val = true ∧ x.2.free = true ∧ RepT (IW W) [] W (at' a x.1) x.2 ∧ ∀ s e, x.2 ≠ .slice true s e := by
  simp only [List.mem_cons, List.not_mem_nil, or_false] at hx;have hw := h.bel.size;rcases hx with rfl | rfl | rfl | rfl
  · refine ⟨by simp, rfl, rfl, ?_, by simp⟩
    show RepT (IW W) [] W (at' a 2) _;rw [h.h2];exact .one (.inl (hT.mono (fun b x hb => Nat.lt_of_lt_of_le (hI b x hb) hw) ⟨fun b o hb => cell_of_heap (h.bel.block b (hI _ _ hb)), fun b hb => h.bel.block b (hI _ _ hb)⟩))
  · exact ⟨by simp, rfl, rfl, by rw [h.h1]; exact .one (.inl (.int _ _)), by simp⟩
  · exact ⟨by simp, rfl, rfl, by rw [h.h71]; exact .one (.inl (.int _ _)), by simp⟩
  · exact ⟨by simp, rfl, rfl, by rw [h.h72]; exact .one (.inl (.int _ _)), by simp⟩
set_option maxRecDepth 100000 in
theorem round3 (hI : ∀ b x, I1 b x → b < W1.heap.size) (hT : Rep I1 W1 v2 (.vptr T.pv)) (hsv : Rep (IW W1) W1 sv (.slice false 1 (ls.map PV.str))) (hm : m = (ls.map PV.str).length) (hm2 : m < 4611686018427387904) (hr : Ev runA 14 [.str [32, 32], I d] [] (.str r) [])
    (htab : Lib.TabBelow Tryz.prog W1.heap.size W1 "strings.asciiSpace" .u8 Lib.asciiSpaceTab) (hls : ∀ i l, ls[i]? = some l → LineOk r i l)
    (h : Lq W1 v2 d sv m a W i) (hi : i ≤ m) {n : Nat} {Rn : Act → World → Prop} {Qx : Exit → Act → World → Prop} (hR : ∀ a' W', i < m → Lq W1 v2 d sv m a' W' (i + 1) → Rn a' W') (hX : ∀ a' W', Lq W1 v2 d sv m a' W' i → Qx (.exit 0) a' W') :
    gL.wpIn (FW none) n Tryz.prog (Exit.then Rn Qx) a W := by
  have hf0 := fresh0 h.sz h.df [(2, PV.vptr T.pv), (1, I d), (71, N m), (72, N i)] fun x hx => h.base hI hT hx
  rw [shapeL];refine wpIn_seq (stepP [2, 1, 70, 71, 72] (by kernel_rfl) q11 p11 hf0 fun a1 U1 hs1 hp1 => ?_)
  change (Code.seq (.cond (.tmp 73) .skip (.exit 0)) _).wpIn _ _ _ _ a1 U1;refine wpIn_seq ?_
  have e73 : a1.eval (.tmp 73) = .bool (decide (((i : Nat) : Int) < ((m : Nat) : Int))) := hs1.bool (t := 73) rfl rfl;have L1 := h.next hs1 hp1;by_cases hlt : i < m
  · rw [decide_eq_true (by omega)] at e73
    refine wpIn_cond_true e73 (wpIn_skip ?_)
    change (Code.seq (.block 1 _) g15).wpIn _ _ _ _ a1 U1;refine wpIn_seq (wpIn_block ?_)
    obtain ⟨l, hl⟩ : ∃ l, ls[i]? = some l := ⟨_, List.getElem?_eq_getElem (by simp at hm; omega)⟩
    obtain ⟨l0, l1, l2, l3, l4⟩ := hls i l hl;have hsv1 : Rep (IW U1) U1 sv (.slice false 1 (ls.map PV.str)) := hsv.mono (fun b x hb => Nat.lt_of_lt_of_le hb L1.bel.size) ⟨fun b o hb => cell_of_heap (L1.bel.block b hb), fun b hb => L1.bel.block b hb⟩
    have hf1 := fresh0 L1.sz L1.df [(2, PV.vptr T.pv), (1, I d), (71, N m), (72, N i), (70, PV.slice false 1 (ls.map PV.str))] fun x hx => by
      by_cases hx' : x ∈ [(2, PV.vptr T.pv), (1, I d), (71, N m), (72, N i)]
      · exact L1.base hI hT hx'
      · have : x = (70, PV.slice false 1 (ls.map PV.str)) := by
          simp only [List.mem_cons, List.not_mem_nil, or_false] at hx hx';rcases hx with hx | hx | hx | hx | hx
          · exact absurd (.inl hx) hx'
          · exact absurd (.inr (.inl hx)) hx'
          · exact absurd (.inr (.inr (.inl hx))) hx'
          · exact absurd (.inr (.inr (.inr hx))) hx'
          · exact hx
        subst this;exact ⟨by simp, rfl, rfl, by rw [L1.h70]; exact .one (.inl hsv1), by simp⟩
    refine wpIn_seq (stepP [2, 1, 70, 71, 72] (by kernel_rfl) q12 (p12 hl) hf1 fun a2 U2 hs2 hp2 => ?_)
    change (Code.seq g13 _).wpIn _ _ _ _ a2 U2;have L2 := L1.next hs2 hp2;have e12 : at' a2 12 = .int .i64 i := hs2.int (t := 12) rfl rfl
    obtain ⟨lB, e13, hlB⟩ : ∃ lB : ByteArray, at' a2 13 = .string lB ∧ lB.data.toList = l := by
      obtain ⟨_, _, _, h3, _⟩ := hs2.rep (t := 13) rfl rfl rfl;exact h3.Az1
    refine wpIn_seq (trim13 L2.sz L2.df e13 (by rw [hlB]; exact l0) (by rw [hlB]; exact l2) (htab U2 L2.bel) fun a3 U3 z3 d3 g3 e78 hb3 => ?_)
    rw [hlB] at e78;have L3 : Lq W1 v2 d sv m a3 U3 i := ⟨z3, d3, (g3 2 (by decide) (by decide)).trans L2.h2, (g3 1 (by decide) (by decide)).trans L2.h1, (g3 70 (by decide) (by decide)).trans L2.h70, (g3 71 (by decide) (by decide)).trans L2.h71, (g3 72 (by decide) (by decide)).trans L2.h72, L2.bel.trans (hb3.mono L2.bel.size)⟩
    have hf3 := fresh0 L3.sz L3.df [(2, PV.vptr T.pv), (1, I d), (12, N i), (13, PV.str l), (78, PV.str (Lib.trimSpace l))] fun x hx => by
      simp only [List.mem_cons, List.not_mem_nil, or_false] at hx;rcases hx with rfl | rfl | rfl | rfl | rfl
      · exact L3.base hI hT (by simp)
      · exact L3.base hI hT (by simp)
      · exact ⟨by simp, rfl, rfl, by rw [g3 12 (by decide) (by decide), e12]; exact .one (.inl (.int _ _)), by simp⟩
      · exact ⟨by simp, rfl, rfl, by rw [g3 13 (by decide) (by decide), e13, ← hlB]; exact .one (.inl (.str _)), by simp⟩
      · exact ⟨by simp, rfl, rfl, by rw [e78]; exact rep_bytes _, by simp⟩
    have h13 : Ax6 pur runA k13s [(2, some (.vptr T.pv)), (1, some (I d)), (12, some (N i)), (13, some (.str l)), (78, some (.str (Lib.trimSpace l)))] [] .normal [(2, some (.vptr T.pv)), (1, some (I d)), (99, some (.bool false))] [] := by
      by_cases h0 : i = 0
      · obtain ⟨c, hc, hc2⟩ := l3 h0;have := p13_3 (T := T) (d := d) l1 (by omega) (by omega) hc (i := i)
        rwa [beq_eq_false_iff_ne.2 hc2] at this
      · have hp := e170 l r;rw [l4 (by omega)] at hp
        exact p13_6 l1 (by omega) hr hp (by omega)
    refine stepS (id := 13) (ops := ops13) q13.1 2 (by rw [ops13_size]; decide) q13.2 h13 hf3 [2, 1, 70, 71, 72] (by kernel_rfl) fun a4 U4 hs4 hp4 => ?_
    have L4 := L3.next hs4 hp4;change (Code.cond (.tmp 99) _ .skip).wpIn _ _ _ _ a4 U4;have e99 : a4.eval (.tmp 99) = .bool false := hs4.bool (t := 99) rfl rfl;refine wpIn_cond_false e99 (wpIn_skip ?_)
    change g15.wpIn _ _ _ _ a4 U4;have hf4 := fresh0 L4.sz L4.df [(2, PV.vptr T.pv), (1, I d), (71, N m), (72, N i)] fun x hx => L4.base hI hT hx
    refine stepP [2, 1, 70, 71] (by kernel_rfl) q15 (p15 (by omega)) hf4 fun a5 U5 hs5 hp5 => hR a5 U5 hlt ?_
    exact ⟨hs5.sz.1, hs5.sz.2, (hp5 2 (by simp)).trans L4.h2, (hp5 1 (by simp)).trans L4.h1, (hp5 70 (by simp)).trans L4.h70, (hp5 71 (by simp)).trans L4.h71, hs5.int (t := 72) rfl rfl, L4.bel.trans (hs5.below.mono L4.bel.size)⟩
  · rw [decide_eq_false (by omega)] at e73
    exact wpIn_cond_false e73 (wpIn_exit (hX a1 U1 L1))
end
end Go.Abs.Z

namespace Go.Abs.Z
open Go.Proofs Go.RowKit
set_option linter.unusedVariables false
set_option linter.unusedSimpArgs false
noncomputable def ops10 : Array Oper := match g10 with | .region _ o _ => o | _ => #[]
theorem g10_eq : g10 = .region 10 ops10 false := rfl
theorem ops10_size : ops10.size = 4 := rfl
theorem o10_0 : ∃ o, ops10[0]? = some o ∧ o.guard = none ∧ o.op = .move (.tmp 7) ∧ o.dst = some 69 := ⟨_, rfl, rfl, rfl, rfl⟩
theorem o10_1 : ∃ o c, ops10[1]? = some o ∧ o.guard = none ∧ o.op = .call c ∧ c.callee = .value (.func 11) ∧ c.args = #[.tmp 69, .const (.string ⟨#[10]⟩)] ∧ o.dst = some 70 := ⟨_, _, rfl, rfl, rfl, rfl, rfl, rfl⟩
abbrev Aj4 (sB : ByteArray) : List ByteArray := Lib.splitB ⟨#[10]⟩ 0 (Lib.countB sB ⟨#[10]⟩) sB
theorem split10 {n : Nat} {Q : Exit → Act → World → Prop} {a : Act} {W : World} (hsz : a.tmps.size = 102) (hdf : a.defers = []) {sB : ByteArray} (e7 : at' a 7 = .string sB) (hl : sB.data.toList.length ≤ 5000) {mm : Int} (hm : W.cell? ⟨2, 0, none⟩ = some (.int .i64 mm))
    (hk : ∀ a' W', a'.tmps.size = 102 → a'.defers = [] → (∀ t, t ≠ 69 → t ≠ 70 → at' a' t = at' a t) → at' a' 70 = .slice (some ⟨W.heap.size, 0, none⟩) (Aj4 sB).length (Aj4 sB).length → W'.heap[W.heap.size]? = some (.cells ((Aj4 sB).map Value.string).toArray 9 (0, 0)) →
      W'.heap.size = W.heap.size + 1 → Below W.heap.size W W' → wpOpsIn (FW none) n Tryz.prog ops10 Q (List.range' 2 (ops10.size - 2)) a' W') : g10.wpIn (FW none) n Tryz.prog Q a W := by
  rw [g10_eq];refine wpIn_region ?_
  rw [ops10_size] at hk ⊢;have hr : List.range 4 = 0 :: 1 :: List.range' 2 2 := by decide
  rw [hr];clear hr;obtain ⟨o, h1, h2, h3, h4⟩ := o10_0;obtain ⟨o', c, k1, k2, k3, k4, k5, k6⟩ := o10_1;have s77 : (a.put o.dst (a.eval (.tmp 7))).tmps.size = 102 := by rw [put_size]; exact hsz
  have g77 : ∀ t, at' (a.put o.dst (a.eval (.tmp 7))) t = if 69 = t then a.eval (.tmp 7) else at' a t := fun t => by rw [h4]; exact at_put hsz (by decide) t
  refine opsIn_cons h1 h2 (by intro c h; rw [h3] at h; cases h) (run_move h3) ?_
  have hcall := Tryz.strings_Split sB ⟨#[10]⟩ mm W (by rw [Lib.size_eq]; omega) hm (by decide)
  have hlen : (Aj4 sB).length = Lib.countB sB ⟨#[10]⟩ + 1 := Lib.splitB_all ⟨#[10]⟩ (by decide) 0 _ _ rfl
  rw [← hlen] at hcall;refine opsIn_call k1 k2 k3 k4 ent11 (R := fun e w' => e = .returned (.slice (some ⟨W.heap.size, 0, none⟩) (Aj4 sB).length (Aj4 sB).length) ∧ w' = W.alloc (.cells ((Aj4 sB).map Value.string).toArray 9)) ?_ ?_
  · rw [k5];have : (a.put o.dst (a.eval (.tmp 7))).eval (.tmp 69) = .string sB := (g77 69).trans (by rw [if_pos rfl]; exact e7)
    have e2 : (#[Operand.tmp 69, Operand.const (.string ⟨#[10]⟩)].map (a.put o.dst (a.eval (.tmp 7))).eval) = #[.string sB, .string ⟨#[10]⟩] := by simp only [List.map_toArray, List.map_cons, List.map_nil, this]; rfl
    rw [e2]; exact hcall
  rintro e U3 ⟨rfl, rfl⟩
  refine ⟨_, rfl, hk _ _ (by rw [put_size]; exact s77) (by rw [put_defers, put_defers]; exact hdf) (fun t n1 n2 => ?_) ?_ (heap_alloc_new' W _) (by simp) ((Below.refl _ _).alloc (Nat.le_refl _) _)⟩
  · rw [k6, at_put s77 (by decide), if_neg (Ne.symm n2), g77, if_neg (Ne.symm n1)]
  · rw [k6, at_put s77 (by decide), if_pos rfl]
def StLaw (T : Tr) (d : Int) : Prop :=
  Ev runA 4 [T.pv, I 100] [] (.bool false) [] ∨ (Ev runA 4 [T.pv, I 100] [] (.bool true) [] ∧ Ev runA 5 [T.pv] [] (.bool false) []) ∨
  (Ev runA 4 [T.pv, I 100] [] (.bool true) [] ∧ Ev runA 5 [T.pv] [] (.bool true) [] ∧ (d < 0 ∨ (¬ d < 0 ∧ d > 10) ∨ (¬ d < 0 ∧ ¬ d > 10 ∧ ∃ s z, Ev runA 7 [T.pv, I d] [] (.tuple [.str s, I z]) [] ∧ (z = 8 ∨ (z ≠ 8 ∧ ∃ (sb : List UInt8) (U : Tr) (σ : Sto) (r : List UInt8),
    Ev runA 8 [T.pv, I d] [] (.tuple [.str sb, I 0]) [] ∧ sb.length ≤ 5000 ∧ Ev runA 9 [.str sb] [] (.tuple [U.pv, .slice false 5 [], I 0]) σ ∧ Ev runA 10 [U.pv, T.pv] [] (.bool true) [] ∧ Ev runA 14 [.str [32, 32], I d] [] (.str r) [] ∧
    ∀ sB : ByteArray, sB.data.toList = sb → ∀ i l, ((Aj4 sB).map fun x => x.data.toList)[i]? = some l → LineOk r i l)))))
theorem seq_n {x y : Code} {n : Nat} {Q : Exit → Act → World → Prop} {a : Act} {W : World} (h : x.wpIn (FW none) n Tryz.prog (Exit.then (y.wpIn (FW none) n Tryz.prog Q) Q) a W) : (Code.seq x y).wpIn (FW none) n Tryz.prog Q a W := wpIn_seq h
set_option maxRecDepth 100000 in
theorem st_walk {T : Tr} {d : Int} {vs : Array Value} {W : World} {mm : Int} (ha : AzI (IW W) [] W vs.toList [T.pv, I d]) (hm : W.cell? ⟨2, 0, none⟩ = some (.int .i64 mm)) (hm0 : 2 < W.heap.size) (htab : Lib.TabIs Tryz.prog W "strings.asciiSpace" .u8 Lib.asciiSpaceTab) (h : StLaw T d) :
    CallsIn (FW none) 0 Tryz.prog 3 vs W fun e W' => e = .returned (.bool true) ∧ Below W.heap.size W W' := by
  have hinit := inv_init (fi := AzA) ok3i (pre_of W) ha (fun p hp => by simp at hp; rcases hp with rfl | rfl; exact Tr.AjD _; rfl) (by show (2 : Nat) ≤ 102; decide) (fun t ht => by
    have : t = 0 ∨ t = 1 := by simp at ht; omega
    rcases this with rfl | rfl <;> rfl) 0
  have hs : SimF (cxA W) [(0, some T.pv), (1, some (I d))] { tmps := vs ++ Array.replicate (AzA.nt - vs.size) undef, defers := [] } W := by
    refine ⟨_, ⟨rfl, fun t v hv => ?_⟩, _, hinit⟩
    have := getK_mem hv;simp at this;rcases this with ⟨rfl, rfl⟩ | ⟨rfl, rfl⟩ <;> rfl
  refine callsIn_of_wp (c := code3) Tryz.func3 rfl trivial ?_
  rw [shape3]
  have early : ∀ a' W' ff, SimF (cxA W) ff a' W' → getK ff 4 = some (.bool true) → a'.defers = [] ∧ ∃ v, (results Tryz.f3 a'.tmps).run Tryz.prog W' = .ok v W' ∧ Ending.returned v = .returned (.bool true) ∧ Below W.heap.size W W' := by
    intro a' W' ff hs' h4;have h2 := hs'.bool (t := 4) rfl h4;refine ⟨hs'.sz.2, .bool true, ?_, rfl, hs'.below⟩
    rw [results_tmp (t := 4) rfl];rw [show a'.tmps.getD 4 undef = .bool true from h2]
  refine seq_n (step q0 p0 hs fun a1 U1 hs1 _ => ?_)
  change (Code.seq gB _).wpIn _ _ _ _ a1 U1;rcases h with h8 | ⟨h8, h53⟩ | ⟨h8, h53, h⟩
  · exact seq_n (step qB (pB_1 h8 evA9) hs1 fun a2 U2 hs2 _ => early a2 U2 _ hs2 rfl)
  · exact seq_n (step qB (pB_2 h8 h53 evA9) hs1 fun a2 U2 hs2 _ => early a2 U2 _ hs2 rfl)
  rcases h with hd | ⟨hd, hd'⟩ | ⟨hd, hd', s, z, h24, h⟩
  · exact seq_n (step qB (pB_3 h8 h53 hd evA9) hs1 fun a2 U2 hs2 _ => early a2 U2 _ hs2 rfl)
  · exact seq_n (step qB (pB_4 h8 h53 hd hd' evA9) hs1 fun a2 U2 hs2 _ => early a2 U2 _ hs2 rfl)
  refine seq_n (step qB (pB_5 h8 h53 hd hd') hs1 fun a2 U2 hs2 _ => ?_)
  change (Code.seq (.seq g3 gD) _).wpIn _ _ _ _ a2 U2;refine seq_n (seq_n (step q3 (p3 h24) hs2 fun a3 U3 hs3 _ => ?_))
  change gD.wpIn _ _ _ _ a3 U3
  have hs3' : SimF (cxA W) [(2, some (.vptr T.pv)), (1, some (I d)), (6, some (I z))] a3 U3 := by
    obtain ⟨A, hr, hh⟩ := hs3;refine ⟨A, ⟨hr.len, fun t v hv => hr.get t v ?_⟩, hh⟩
    have := getK_mem hv;simp at this;rcases this with ⟨rfl, rfl⟩ | ⟨rfl, rfl⟩ | ⟨rfl, rfl⟩ <;> rfl
  rcases h with hz | ⟨hz, sb, U, σ, r, h23, hlen, h9, h18, h162, hlines⟩
  · exact step qD (pD_1 hz evA9) hs3' fun a4 U4 hs4 _ => early a4 U4 _ hs4 rfl
  refine step qD (pD_2 hz) hs3' fun a4 U4 hs4 _ => ?_
  change (Code.seq g6 _).wpIn _ _ _ _ a4 U4;refine seq_n (step q6 (p6 h23) hs4 fun a5 U5 hs5 _ => ?_)
  change (Code.seq g7 _).wpIn _ _ _ _ a5 U5;refine seq_n (step q7 (p7 (dl1 := []) h9) hs5 fun a6 U6 hs6 _ => ?_)
  change (Code.seq gE _).wpIn _ _ _ _ a6 U6;refine seq_n (step qE (pE h18) hs6 fun a7 U7 hs7 _ => ?_)
  change (Code.seq (.seq g10 _) _).wpIn _ _ _ _ a7 U7
  obtain ⟨sB, e7, hsB⟩ : ∃ sB : ByteArray, at' a7 7 = .string sB ∧ sB.data.toList = sb := by
    obtain ⟨_, _, _, h3, _⟩ := hs7.rep (t := 7) rfl rfl rfl;exact h3.Az1
  have e1 := hs7.int (t := 1) rfl rfl;have z7 := hs7.sz;have b7 := hs7.below;obtain ⟨G1, A1, hi1, hr1, _⟩ := hs7.rep (t := 2) (p := .vptr T.pv) rfl rfl rfl;have hT := hr1.flat rfl;have hb1 := hi1.base;refine seq_n (seq_n (split10 z7.1 z7.2 e7 (by rw [hsB]; exact hlen) (mm := mm) (by rw [b7.cell hm0]; exact hm) fun a8 U8 z8 d8 g8 e70 hblk hsz8 b8 => ?_))
  have hT8 : Rep G1.I U8 (at' a7 2) (.vptr T.pv) := hT.mono (fun _ _ h => h) ⟨fun b o hb => cell_of_heap (b8.block b (hb1.lt b _ hb)), fun b hb => b8.block b (hb1.lt b _ hb)⟩
  have hI8 : ∀ b x, G1.I b x → b < U8.heap.size := fun b x hb => by have := hb1.lt b x hb; omega
  have hsv8 : Rep (IW U8) U8 (at' a8 70) (.slice false 1 (((Aj4 sB).map fun x => x.data.toList).map PV.str)) := by
    rw [e70];exact rep_strs (fun j => by show _ < _; omega) rfl hblk
  have hf8 := fresh0 z8 d8 [(2, PV.vptr T.pv), (1, I d), (70, PV.slice false 1 (((Aj4 sB).map fun x => x.data.toList).map PV.str))] fun x hx => by
    simp only [List.mem_cons, List.not_mem_nil, or_false] at hx;rcases hx with rfl | rfl | rfl
    · refine ⟨by simp, rfl, rfl, ?_, by simp⟩
      show RepT (IW U8) [] U8 (at' a8 2) _;rw [g8 2 (by decide) (by decide)]
      exact .one (.inl (hT8.mono (fun b x hb => hI8 b x hb) (Same.refl _ _)))
    · exact ⟨by simp, rfl, rfl, by rw [g8 1 (by decide) (by decide), e1]; exact .one (.inl (.int _ _)), by simp⟩
    · exact ⟨by simp, rfl, rfl, .one (.inl hsv8), by simp⟩
  refine stepS (id := 10) (ops := ops10) q10.1 2 (by rw [ops10_size]; decide) q10.2 p10 hf8 [] rfl fun a9 U9 hs9 _ => ?_
  change (Code.block 0 (.loop gL)).wpIn _ _ _ _ a9 U9;have b9 := hs9.below
  have L9 : Lq U9 (at' a9 2) d (at' a9 70) (((Aj4 sB).map fun x => x.data.toList).map PV.str).length a9 U9 0 :=
    ⟨hs9.sz.1, hs9.sz.2, rfl, hs9.int (t := 1) rfl rfl, rfl, hs9.int (t := 71) rfl rfl, hs9.int (t := 72) rfl rfl, Below.refl _ _⟩
  have bW8 : Below W.heap.size W U8 := b7.trans (b8.mono b7.size);have bW9 : Below W.heap.size W U9 := bW8.trans (b9.mono bW8.size);obtain ⟨G2, A2, hi2, hr2, _⟩ := hs9.rep (t := 2) (p := .vptr T.pv) rfl rfl rfl;have hT9 := hr2.flat rfl;have hI9 := hi2.base.lt;obtain ⟨G3, A3, hi3, hr3, _⟩ := hs9.rep (t := 70) (p := .slice false 1 (((Aj4 sB).map fun x => x.data.toList).map PV.str)) rfl rfl rfl
  have hsv9 : Rep (IW U9) U9 (at' a9 70) (.slice false 1 (((Aj4 sB).map fun x => x.data.toList).map PV.str)) := (hr3.flat rfl).mono (fun b x hb => hi3.base.lt b x hb) (Same.refl _ _)
  have hcnt : (((Aj4 sB).map fun x => x.data.toList).map PV.str).length < 4611686018427387904 := by
    have h1 : (Aj4 sB).length ≤ Lib.countB sB ⟨#[10]⟩ + 1 := Lib.splitB_length_le _ _ _ _;have h2 := Lib.countB_le ⟨#[10]⟩ (by decide) sB.size sB (Nat.le_refl _)
    have h3 : sB.size = sb.length := by rw [← hsB]; exact Lib.size_eq sB
    simp only [List.length_map];omega
  have htab9 : Lib.TabBelow Tryz.prog U9.heap.size U9 "strings.asciiSpace" .u8 Lib.asciiSpaceTab := Lib.tabBelow_of_tabIs (Lib.tabBelow_of_tabIs htab U9 bW9)
  refine wpIn_block (wpIn_loop (fun a W => ∃ i, i ≤ (((Aj4 sB).map fun x => x.data.toList).map PV.str).length ∧ Lq U9 (at' a9 2) d (at' a9 70) (((Aj4 sB).map fun x => x.data.toList).map PV.str).length a W i)
    (fun a _ => match at' a 72 with | .int _ x => ((((Aj4 sB).map fun x => x.data.toList).map PV.str).length - x.toNat) | _ => 0) ⟨0, Nat.zero_le _, L9⟩ ?_)
  rintro a W' ⟨i, hi, hL⟩
  refine round3 hI9 hT9 hsv9 rfl hcnt h162 htab9 (hlines sB hsB) hL hi (fun a' W' hlt L => ⟨⟨i + 1, by omega, L⟩, ?_⟩) (fun a' W' L => ?_)
  · rw [L.h72, hL.h72];show _ - ((i + 1 : Nat) : Int).toNat < _ - ((i : Nat) : Int).toNat;omega
  · change (Code.seq g16 .ret).wpIn _ _ _ _ a' W';have hfE := fresh0 L.sz L.df [(2, PV.vptr T.pv)] fun x hx => L.base hI9 hT9 (by simp at hx; simp [hx])
    refine seq_n (step q16 (p16 evA9) hfE fun aE UE hsE _ => wpIn_ret ?_)
    have h2 := hsE.bool (t := 4) rfl rfl;refine ⟨hsE.sz.2, .bool true, ?_, rfl, bW9.trans ((L.bel.trans (hsE.below.mono L.bel.size)).mono bW9.size)⟩
    rw [results_tmp (t := 4) rfl];rw [show aE.tmps.getD 4 undef = .bool true from h2]
end Go.Abs.Z
