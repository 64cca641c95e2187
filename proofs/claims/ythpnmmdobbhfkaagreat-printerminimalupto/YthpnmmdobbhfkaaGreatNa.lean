/- A part of the proof: N1 N2 N3 N4. -/
import Derived.Test.YthpnmmdobbhfkaaGreatMc
import Derived.Test.YthpnmmdobbhfkaaGreatWd
import Derived.Test.YthpnmmdobbhfkaaGreatRa

set_option linter.unusedVariables false
set_option linter.unusedSimpArgs false
namespace Go.Abs.Z
open Go.Proofs Go.RowKit
theorem ruleCX {c : ACode} {ff : FF} {σ σ' : Sto} {e : AExit} (sl : List Nat) {ff' : FF} (l : List Stp) (h : (tRun pur runA c ff σ (tapeOf l) True).map (fun o => (o.e, Go.Abs.pickF sl o.ff, o.σ, o.q)) = some (e, ff', σ', qOf l True)) : CodeEv pur runA c ff σ e ff' σ' := by
  obtain ⟨o, h1, h2⟩ := Option.map_eq_some_iff.1 h
  obtain ⟨e1, f1, s1, t1, q1⟩ := o
  cases h2
  obtain ⟨N, H⟩ := (tRun_sound c h1).2 (qOf_ok l trivial)
  exact ⟨N, fun n hn ff0 h0 => by obtain ⟨x, a, b⟩ := H n hn ff0 h0; exact ⟨x, a, Sub.trans (Go.Abs.pickF_sub sl _) b⟩⟩
def aL : ACode → ACode | .seq x _ => x | c => c
def aR : ACode → ACode | .seq _ y => y | c => c
def aK : ACode → ACode | .block _ c => c | .loop _ c => c | c => c
def aT : ACode → ACode | .cond _ x _ => x | c => c
def aE : ACode → ACode | .cond _ _ y => y | c => c
def k0 : ACode := aL a6.code
def kB : ACode := aL (aR a6.code)
def k3 : ACode := aL (aR (aR a6.code))
def kD : ACode := aL (aR (aR (aR a6.code)))
def k5 : ACode := aL (aR (aR (aR (aR a6.code))))
def k7 : ACode := aL (aL (aR (aR (aR (aR (aR a6.code))))))
def kL : ACode := aK (aK (aR (aL (aR (aR (aR (aR (aR a6.code))))))))
def k23 : ACode := aL (aR (aR (aR (aR (aR (aR a6.code))))))
def k8 : ACode := aL kL
def k9 : ACode := aL (aK (aL (aR (aR kL))))
def k22 : ACode := aR (aR (aR kL))
def kM : ACode := aR (aK (aL (aR (aR kL))))
def k10 : ACode := aL kM
def k11 : ACode := aL (aK (aR kM))
def k12 : ACode := aT (aR (aK (aR kM)))
def k13 : ACode := aL (aE (aR (aK (aR kM))))
def kC : ACode := aT (aR (aE (aR (aK (aR kM)))))
def k14 : ACode := aL kC
def k16 : ACode := aL (aR kC)
def kT : ACode := aR (aR (aR kC))
def kU : ACode := aL kT
def kV : ACode := aR kT
theorem p0 {T : Tr} : CodeEv pur runA k0 [(0, some T.pv)] [] .normal [(1, some (.vptr T.pv))] [] :=
  ruleCX [1] [st 0 (PA (bx_tr T))] (by kernel_rfl)
theorem pB_1 {T : Tr} {b1 : Bool} (h1 : Ev runA 8 [T.pv, (I 60)] [] (.bool false) []) (h2 : Ev runA 9 [] [] (.bool b1) []) : CodeEv pur runA kB [(1, some (.vptr T.pv))] [] .ret [(2, some (.bool b1))] [] :=
  ruleCX [2] [st 0 (QA (ld_tr T)), st 0 (oCA h1), st 7 (oCA h2)] (by kernel_rfl)
theorem pB_2 {T : Tr} (h1 : Ev runA 8 [T.pv, (I 60)] [] (.bool true) []) (h2 : Ev runA 19 [T.pv] [] (.bool true) []) : CodeEv pur runA kB [(1, some (.vptr T.pv))] [] .normal [(1, some (.vptr T.pv))] [] :=
  ruleCX [1] [st 0 (QA (ld_tr T)), st 0 (oCA h1), sg 2 (QA (ld_tr T)), sg 0 (oCA h2)] (by kernel_rfl)
theorem pB_3 {T : Tr} {b1 : Bool} (h1 : Ev runA 8 [T.pv, (I 60)] [] (.bool true) []) (h2 : Ev runA 19 [T.pv] [] (.bool false) []) (h3 : Ev runA 9 [] [] (.bool b1) []) : CodeEv pur runA kB [(1, some (.vptr T.pv))] [] .ret [(2, some (.bool b1))] [] :=
  ruleCX [2] [st 0 (QA (ld_tr T)), st 0 (oCA h1), sg 2 (QA (ld_tr T)), sg 0 (oCA h2), st 3 (oCA h3)] (by kernel_rfl)
theorem p3 {T : Tr} {s1 : List UInt8} {z1 : Int} (h1 : Ev runA 20 [T.pv] [] (.tuple [(.str s1), (I z1)]) []) : CodeEv pur runA k3 [(1, some (.vptr T.pv))] [] .normal [(1, some (.vptr T.pv)), (3, some (.str s1)), (4, some (I z1))] [] :=
  ruleCX [1, 3, 4] [st 0 (QA (ld_tr T)), st 0 (oCA h1)] (by kernel_rfl)
theorem pD {T : Tr} {sb : List UInt8} : CodeEv pur runA kD [(1, some (.vptr T.pv)), (3, some (.str sb)), (4, some (I 0))] [] .normal [(1, some (.vptr T.pv)), (3, some (.str sb))] [] :=
  ruleCX [1, 3] [] (by kernel_rfl)
theorem p5 {T : Tr} {sb : List UInt8} : CodeEv pur runA k5 [(1, some (.vptr T.pv)), (3, some (.str sb))] [] .normal [(1, some (.vptr T.pv)), (3, some (.str sb)), (5, some .nils)] [] :=
  ruleCX [1, 3, 5] [] (by kernel_rfl)
theorem p7 {T : Tr} {sb : List UInt8} : CodeEv pur runA k7 [(1, some (.vptr T.pv)), (3, some (.str sb)), (5, some .nils)] [] .normal [(1, some (.vptr T.pv)), (3, some (.str sb)), (5, some .nils), (28, some (N ((sb).length))), (29, some (I 0))] [] :=
  ruleCX [1, 3, 5, 28, 29] [] (by kernel_rfl)
theorem p8 {T : Tr} {sb : List UInt8} {i : Nat} : CodeEv pur runA k8 [(1, some (.vptr T.pv)), (3, some (.str sb)), (28, some (N sb.length)), (29, some (N i))] [] .normal [(1, some (.vptr T.pv)), (3, some (.str sb)), (28, some (N sb.length)), (29, some (N i)), (30, some (.bool (decide (((i : Nat) : Int) < ((sb.length : Nat) : Int)))))] [] :=
  ruleCX [1, 3, 28, 29, 30] [] (by kernel_rfl)
theorem p9 {T : Tr} {sb : List UInt8} {i : Nat} : CodeEv pur runA k9 [(1, some (.vptr T.pv)), (3, some (.str sb)), (28, some (N sb.length)), (29, some (N i))] [] .normal [(1, some (.vptr T.pv)), (3, some (.str sb)), (28, some (N sb.length)), (29, some (N i)), (6, some (N i))] [] :=
  ruleCX [1, 3, 28, 29, 6] [] (by kernel_rfl)
theorem p10 {T : Tr} {sb : List UInt8} {i : Nat} {c1 : UInt8} (g1 : (sb : List UInt8)[i]? = some c1) : CodeEv pur runA k10 [(1, some (.vptr T.pv)), (3, some (.str sb)), (28, some (N sb.length)), (29, some (N i)), (6, some (N i))] [] .normal [(1, some (.vptr T.pv)), (3, some (.str sb)), (28, some (N sb.length)), (29, some (N i)), (6, some (N i)), (34, some (.int .u8 ((c1.toNat : Nat) : Int)))] [] :=
  ruleCX [1, 3, 28, 29, 6, 34] [st 2 (PA (p_sidx _ (i) _ g1))] (by kernel_rfl)
theorem p11 {T : Tr} {sb : List UInt8} {i : Nat} {c : UInt8} : CodeEv pur runA k11 [(1, some (.vptr T.pv)), (3, some (.str sb)), (28, some (N sb.length)), (29, some (N i)), (6, some (N i)), (34, some (.int .u8 ((c.toNat : Nat) : Int)))] [] .normal [(1, some (.vptr T.pv)), (3, some (.str sb)), (28, some (N sb.length)), (29, some (N i)), (6, some (N i)), (34, some (.int .u8 ((c.toNat : Nat) : Int))), (35, some (.bool (((c.toNat : Nat) : Int) == 40)))] [] :=
  ruleCX [1, 3, 28, 29, 6, 34, 35] [] (by kernel_rfl)
theorem p13 {T : Tr} {sb : List UInt8} {i : Nat} {c : UInt8} : CodeEv pur runA k13 [(1, some (.vptr T.pv)), (3, some (.str sb)), (28, some (N sb.length)), (29, some (N i)), (6, some (N i)), (34, some (.int .u8 ((c.toNat : Nat) : Int)))] [] .normal [(1, some (.vptr T.pv)), (3, some (.str sb)), (28, some (N sb.length)), (29, some (N i)), (6, some (N i)), (41, some (.bool (((c.toNat : Nat) : Int) == 41)))] [] :=
  ruleCX [1, 3, 28, 29, 6, 41] [] (by kernel_rfl)
theorem p22 {T : Tr} {sb : List UInt8} {i : Nat} (l1 : i < 4611686018427387904) : CodeEv pur runA k22 [(1, some (.vptr T.pv)), (3, some (.str sb)), (28, some (N sb.length)), (29, some (N i))] [] .normal [(1, some (.vptr T.pv)), (3, some (.str sb)), (28, some (N sb.length)), (29, some (N (i + 1)))] [] :=
  ruleCX [1, 3, 28, 29] [st 0 (PA (add_nat (i) 1 l1 (by decide)))] (by kernel_rfl)
theorem p23 {T : Tr} {b1 : Bool} (h1 : Ev runA 9 [] [] (.bool b1) []) : CodeEv pur runA k23 [(1, some (.vptr T.pv))] [] .normal [(2, some (.bool b1))] [] :=
  ruleCX [2] [st 0 (oCA h1)] (by kernel_rfl)
theorem pU_1 {T : Tr} {sb : List UInt8} {i : Nat} {o : Nat} (c1 : ¬ ((o : Nat) : Int) > 0) : CodeEv pur runA kU [(1, some (.vptr T.pv)), (3, some (.str sb)), (28, some (N sb.length)), (29, some (N i)), (6, some (N i)), (7, some (N o))] [] .normal [(1, some (.vptr T.pv)), (3, some (.str sb)), (28, some (N sb.length)), (29, some (N i)), (6, some (N i)), (7, some (N o))] [] :=
  ruleCX [1, 3, 28, 29, 6, 7] [st 1 (PA (b_gtrF .i64 c1))] (by kernel_rfl)
theorem pU_2 {T : Tr} {sb : List UInt8} {i : Nat} {o : Nat} {c2 : UInt8} (c1 : ((o : Nat) : Int) > 0) (l1 : 1 ≤ o) (l2 : o < 4611686018427387904) (g1 : (sb : List UInt8)[(o - 1)]? = some c2) (c3 : ((c2.toNat : Nat) : Int) = 32) : CodeEv pur runA kU [(1, some (.vptr T.pv)), (3, some (.str sb)), (28, some (N sb.length)), (29, some (N i)), (6, some (N i)), (7, some (N o))] [] .normal [(1, some (.vptr T.pv)), (3, some (.str sb)), (28, some (N sb.length)), (29, some (N i)), (6, some (N i)), (7, some (N o))] [] :=
  ruleCX [1, 3, 28, 29, 6, 7] [st 1 (PA (b_gtrT .i64 c1)), sg 3 (PA (sub_nat (o) 1 l1 l2)), sg 0 (PA (p_sidx _ ((o - 1)) _ g1)), sg 0 (PA (b_neqF .u8 c3))] (by kernel_rfl)
theorem pU_3 {T : Tr} {sb : List UInt8} {i : Nat} {o : Nat} {c2 : UInt8} {c4 : UInt8} (c1 : ((o : Nat) : Int) > 0) (l1 : 1 ≤ o) (l2 : o < 4611686018427387904) (g1 : (sb : List UInt8)[(o - 1)]? = some c2) (c3 : ((c2.toNat : Nat) : Int) ≠ 32) (l3 : 1 ≤ o) (l4 : o < 4611686018427387904) (g2 : (sb : List UInt8)[(o - 1)]? = some c4) (c5 : ((c4.toNat : Nat) : Int) = 40) : CodeEv pur runA kU [(1, some (.vptr T.pv)), (3, some (.str sb)), (28, some (N sb.length)), (29, some (N i)), (6, some (N i)), (7, some (N o))] [] .normal [(1, some (.vptr T.pv)), (3, some (.str sb)), (28, some (N sb.length)), (29, some (N i)), (6, some (N i)), (7, some (N o))] [] :=
  ruleCX [1, 3, 28, 29, 6, 7] [st 1 (PA (b_gtrT .i64 c1)), sg 3 (PA (sub_nat (o) 1 l1 l2)), sg 0 (PA (p_sidx _ ((o - 1)) _ g1)), sg 0 (PA (b_neqT .u8 c3)), sg 4 (PA (sub_nat (o) 1 l3 l4)), sg 0 (PA (p_sidx _ ((o - 1)) _ g2)), sg 0 (PA (b_neqF .u8 c5))] (by kernel_rfl)
theorem pU_4 {T : Tr} {sb : List UInt8} {i : Nat} {o : Nat} {c2 : UInt8} {c4 : UInt8} {c6 : UInt8} (c1 : ((o : Nat) : Int) > 0) (l1 : 1 ≤ o) (l2 : o < 4611686018427387904) (g1 : (sb : List UInt8)[(o - 1)]? = some c2) (c3 : ((c2.toNat : Nat) : Int) ≠ 32) (l3 : 1 ≤ o) (l4 : o < 4611686018427387904) (g2 : (sb : List UInt8)[(o - 1)]? = some c4) (c5 : ((c4.toNat : Nat) : Int) ≠ 40) (l5 : 1 ≤ o) (l6 : o < 4611686018427387904) (g3 : (sb : List UInt8)[(o - 1)]? = some c6) (c7 : ((c6.toNat : Nat) : Int) = 45) : CodeEv pur runA kU [(1, some (.vptr T.pv)), (3, some (.str sb)), (28, some (N sb.length)), (29, some (N i)), (6, some (N i)), (7, some (N o))] [] .normal [(1, some (.vptr T.pv)), (3, some (.str sb)), (28, some (N sb.length)), (29, some (N i)), (6, some (N i)), (7, some (N o))] [] :=
  ruleCX [1, 3, 28, 29, 6, 7] [st 1 (PA (b_gtrT .i64 c1)), sg 3 (PA (sub_nat (o) 1 l1 l2)), sg 0 (PA (p_sidx _ ((o - 1)) _ g1)), sg 0 (PA (b_neqT .u8 c3)), sg 4 (PA (sub_nat (o) 1 l3 l4)), sg 0 (PA (p_sidx _ ((o - 1)) _ g2)), sg 0 (PA (b_neqT .u8 c5)), sg 4 (PA (sub_nat (o) 1 l5 l6)), sg 0 (PA (p_sidx _ ((o - 1)) _ g3)), sg 0 (PA (b_neqF .u8 c7))] (by kernel_rfl)
theorem pU_5 {T : Tr} {sb : List UInt8} {i : Nat} {o : Nat} {c2 : UInt8} {c4 : UInt8} {c6 : UInt8} {c8 : UInt8} (c1 : ((o : Nat) : Int) > 0) (l1 : 1 ≤ o) (l2 : o < 4611686018427387904) (g1 : (sb : List UInt8)[(o - 1)]? = some c2) (c3 : ((c2.toNat : Nat) : Int) ≠ 32) (l3 : 1 ≤ o) (l4 : o < 4611686018427387904) (g2 : (sb : List UInt8)[(o - 1)]? = some c4) (c5 : ((c4.toNat : Nat) : Int) ≠ 40) (l5 : 1 ≤ o) (l6 : o < 4611686018427387904) (g3 : (sb : List UInt8)[(o - 1)]? = some c6) (c7 : ((c6.toNat : Nat) : Int) ≠ 45) (l7 : 1 ≤ o) (l8 : o < 4611686018427387904) (g4 : (sb : List UInt8)[(o - 1)]? = some c8) (c9 : ((c8.toNat : Nat) : Int) ≠ 91) : CodeEv pur runA kU [(1, some (.vptr T.pv)), (3, some (.str sb)), (28, some (N sb.length)), (29, some (N i)), (6, some (N i)), (7, some (N o))] [] (.exit 1) [(1, some (.vptr T.pv)), (3, some (.str sb)), (28, some (N sb.length)), (29, some (N i)), (6, some (N i)), (7, some (N o))] [] :=
  ruleCX [1, 3, 28, 29, 6, 7] [st 1 (PA (b_gtrT .i64 c1)), sg 3 (PA (sub_nat (o) 1 l1 l2)), sg 0 (PA (p_sidx _ ((o - 1)) _ g1)), sg 0 (PA (b_neqT .u8 c3)), sg 4 (PA (sub_nat (o) 1 l3 l4)), sg 0 (PA (p_sidx _ ((o - 1)) _ g2)), sg 0 (PA (b_neqT .u8 c5)), sg 4 (PA (sub_nat (o) 1 l5 l6)), sg 0 (PA (p_sidx _ ((o - 1)) _ g3)), sg 0 (PA (b_neqT .u8 c7)), sg 4 (PA (sub_nat (o) 1 l7 l8)), sg 0 (PA (p_sidx _ ((o - 1)) _ g4)), sg 0 (PA (b_neqT .u8 c9))] (by kernel_rfl)
theorem pU_6 {T : Tr} {sb : List UInt8} {i : Nat} {o : Nat} {c2 : UInt8} {c4 : UInt8} {c6 : UInt8} {c8 : UInt8} (c1 : ((o : Nat) : Int) > 0) (l1 : 1 ≤ o) (l2 : o < 4611686018427387904) (g1 : (sb : List UInt8)[(o - 1)]? = some c2) (c3 : ((c2.toNat : Nat) : Int) ≠ 32) (l3 : 1 ≤ o) (l4 : o < 4611686018427387904) (g2 : (sb : List UInt8)[(o - 1)]? = some c4) (c5 : ((c4.toNat : Nat) : Int) ≠ 40) (l5 : 1 ≤ o) (l6 : o < 4611686018427387904) (g3 : (sb : List UInt8)[(o - 1)]? = some c6) (c7 : ((c6.toNat : Nat) : Int) ≠ 45) (l7 : 1 ≤ o) (l8 : o < 4611686018427387904) (g4 : (sb : List UInt8)[(o - 1)]? = some c8) (c9 : ((c8.toNat : Nat) : Int) = 91) : CodeEv pur runA kU [(1, some (.vptr T.pv)), (3, some (.str sb)), (28, some (N sb.length)), (29, some (N i)), (6, some (N i)), (7, some (N o))] [] .normal [(1, some (.vptr T.pv)), (3, some (.str sb)), (28, some (N sb.length)), (29, some (N i)), (6, some (N i)), (7, some (N o))] [] :=
  ruleCX [1, 3, 28, 29, 6, 7] [st 1 (PA (b_gtrT .i64 c1)), sg 3 (PA (sub_nat (o) 1 l1 l2)), sg 0 (PA (p_sidx _ ((o - 1)) _ g1)), sg 0 (PA (b_neqT .u8 c3)), sg 4 (PA (sub_nat (o) 1 l3 l4)), sg 0 (PA (p_sidx _ ((o - 1)) _ g2)), sg 0 (PA (b_neqT .u8 c5)), sg 4 (PA (sub_nat (o) 1 l5 l6)), sg 0 (PA (p_sidx _ ((o - 1)) _ g3)), sg 0 (PA (b_neqT .u8 c7)), sg 4 (PA (sub_nat (o) 1 l7 l8)), sg 0 (PA (p_sidx _ ((o - 1)) _ g4)), sg 0 (PA (b_neqF .u8 c9))] (by kernel_rfl)
theorem pV_1 {T : Tr} {sb : List UInt8} {i : Nat} {o : Nat} {s1 : List UInt8} {s2 : List UInt8} {s3 : List UInt8} {U1 : Tr} {dl1 : List Dg} {z1 : Int} {σ1 : Sto} (x1 : semP (.ssl false true) [(.str sb), (N o)] = some [some (.str s1)]) (l1 : s1.length + ([32] : List UInt8).length ≤ maxStr) (l2 : o < 4611686018427387904) (x2 : semP (.ssl true true) [(.str sb), (N (o + 1)), (N i)] = some [some (.str s2)]) (l3 : ((s1 ++ [32]) : List UInt8).length + s2.length ≤ maxStr) (l4 : (((s1 ++ [32]) ++ s2) : List UInt8).length + ([32] : List UInt8).length ≤ maxStr) (l5 : i < 4611686018427387904) (x3 : semP (.ssl true false) [(.str sb), (N (i + 1))] = some [some (.str s3)]) (l6 : ((((s1 ++ [32]) ++ s2) ++ [32]) : List UInt8).length + s3.length ≤ maxStr) (h1 : Ev runA 21 [(.str ((((s1 ++ [32]) ++ s2) ++ [32]) ++ s3))] [] (.tuple [U1.pv, (.slice false 5 (dl1.map Dg.pv)), (I z1)]) σ1) (c1 : (((dl1).length : Nat) : Int) ≠ 0) : CodeEv pur runA kV [(1, some (.vptr T.pv)), (3, some (.str sb)), (28, some (N sb.length)), (29, some (N i)), (6, some (N i)), (7, some (N o))] [] .normal [(1, some (.vptr T.pv)), (3, some (.str sb)), (28, some (N sb.length)), (29, some (N i))] [] :=
  ruleCX [1, 3, 28, 29] [st 2 (PA (x1)), st 0 (PA (cat_of l1)), st 2 (PA (add_nat (o) 1 l2 (by decide))), st 1 (PA (x2)), st 0 (PA (cat_of l3)), st 0 (PA (cat_of l4)), st 2 (PA (add_nat (i) 1 l5 (by decide))), st 0 (PA (x3)), st 0 (PA (cat_of l6)), st 0 (oCA h1), st 1 (op_p (ext_of 0 (by rfl) (by simp)) : OpEv pur runA (.p (.ext 0)) [(.tuple [U1.pv, (.slice false 5 (dl1.map Dg.pv)), (I z1)])] [] [some U1.pv] []), st 0 (op_p (ext_of 1 (by rfl) (by simp)) : OpEv pur runA (.p (.ext 1)) [(.tuple [U1.pv, (.slice false 5 (dl1.map Dg.pv)), (I z1)])] [] [some (.slice false 5 (dl1.map Dg.pv))] []), st 0 (op_p (ext_of 2 (by rfl) (by simp)) : OpEv pur runA (.p (.ext 2)) [(.tuple [U1.pv, (.slice false 5 (dl1.map Dg.pv)), (I z1)])] [] [some (I z1)] []), st 1 (PA (sti_tr U1)), st 3 (PA (len_dgs false 5 dl1)), st 0 (PA (b_eqlF .i64 c1))] (by kernel_rfl)
theorem pV_3 {T : Tr} {sb : List UInt8} {i : Nat} {o : Nat} {s1 : List UInt8} {s2 : List UInt8} {s3 : List UInt8} {U1 : Tr} {dl1 : List Dg} {z1 : Int} {σ1 : Sto} (x1 : semP (.ssl false true) [(.str sb), (N o)] = some [some (.str s1)]) (l1 : s1.length + ([32] : List UInt8).length ≤ maxStr) (l2 : o < 4611686018427387904) (x2 : semP (.ssl true true) [(.str sb), (N (o + 1)), (N i)] = some [some (.str s2)]) (l3 : ((s1 ++ [32]) : List UInt8).length + s2.length ≤ maxStr) (l4 : (((s1 ++ [32]) ++ s2) : List UInt8).length + ([32] : List UInt8).length ≤ maxStr) (l5 : i < 4611686018427387904) (x3 : semP (.ssl true false) [(.str sb), (N (i + 1))] = some [some (.str s3)]) (l6 : ((((s1 ++ [32]) ++ s2) ++ [32]) : List UInt8).length + s3.length ≤ maxStr) (h1 : Ev runA 21 [(.str ((((s1 ++ [32]) ++ s2) ++ [32]) ++ s3))] [] (.tuple [U1.pv, (.slice false 5 (dl1.map Dg.pv)), (I z1)]) σ1) (c1 : (((dl1).length : Nat) : Int) = 0) (h2 : Ev runA 18 [U1.pv, T.pv] [] (.bool false) []) : CodeEv pur runA kV [(1, some (.vptr T.pv)), (3, some (.str sb)), (28, some (N sb.length)), (29, some (N i)), (6, some (N i)), (7, some (N o))] [] .normal [(1, some (.vptr T.pv)), (3, some (.str sb)), (28, some (N sb.length)), (29, some (N i))] [] :=
  ruleCX [1, 3, 28, 29] [st 2 (PA (x1)), st 0 (PA (cat_of l1)), st 2 (PA (add_nat (o) 1 l2 (by decide))), st 1 (PA (x2)), st 0 (PA (cat_of l3)), st 0 (PA (cat_of l4)), st 2 (PA (add_nat (i) 1 l5 (by decide))), st 0 (PA (x3)), st 0 (PA (cat_of l6)), st 0 (oCA h1), st 1 (op_p (ext_of 0 (by rfl) (by simp)) : OpEv pur runA (.p (.ext 0)) [(.tuple [U1.pv, (.slice false 5 (dl1.map Dg.pv)), (I z1)])] [] [some U1.pv] []), st 0 (op_p (ext_of 1 (by rfl) (by simp)) : OpEv pur runA (.p (.ext 1)) [(.tuple [U1.pv, (.slice false 5 (dl1.map Dg.pv)), (I z1)])] [] [some (.slice false 5 (dl1.map Dg.pv))] []), st 0 (op_p (ext_of 2 (by rfl) (by simp)) : OpEv pur runA (.p (.ext 2)) [(.tuple [U1.pv, (.slice false 5 (dl1.map Dg.pv)), (I z1)])] [] [some (I z1)] []), st 1 (PA (sti_tr U1)), st 3 (PA (len_dgs false 5 dl1)), st 0 (PA (b_eqlT .i64 c1)), sg 1 (QA (ld_tr U1)), sg 0 (QA (ld_tr T)), sg 0 (oCA h2)] (by kernel_rfl)
theorem p12n {i : Nat} : CodeEv pur runA k12 [(5, some .nils), (6, some (N i))] [] .normal [(5, some (.slice true 1 [N i]))] [] :=
  ruleCX [5] [] (by kernel_rfl)
theorem p12s {i : Nat} {es : List PV} (h : es.length + 1 ≤ maxRow) : CodeEv pur runA k12 [(5, some (.slice true 1 es)), (6, some (N i))] [] .normal [(5, some (.slice true 1 (es ++ [N i])))] [] :=
  ruleCX [5] [st 3 (PA (app_lit (size := 1) (o' := true) (es := es) (xs := [N i]) h rfl (by rfl)))] (by kernel_rfl)
theorem p14 {T : Tr} {sb : List UInt8} {i : Nat} {es : List PV} (h : ((es.length : Nat) : Int) ≠ 0) : CodeEv pur runA k14 [(1, some (.vptr T.pv)), (3, some (.str sb)), (28, some (N sb.length)), (29, some (N i)), (6, some (N i)), (5, some (.slice false 1 es))] [] .normal [(1, some (.vptr T.pv)), (3, some (.str sb)), (28, some (N sb.length)), (29, some (N i)), (6, some (N i)), (5, some (.slice false 1 es))] [] :=
  ruleCX [1, 3, 28, 29, 6, 5] [st 2 (PA (b_eqlF .i64 h))] (by kernel_rfl)
theorem p16 {T : Tr} {sb : List UInt8} {i o : Nat} {es : List PV} (h1 : 1 ≤ es.length) (h2 : es.length < 4611686018427387904) (h : es[es.length - 1]? = some (N o)) : CodeEv pur runA k16 [(1, some (.vptr T.pv)), (3, some (.str sb)), (28, some (N sb.length)), (29, some (N i)), (6, some (N i)), (5, some (.slice false 1 es))] [] .normal [(1, some (.vptr T.pv)), (3, some (.str sb)), (28, some (N sb.length)), (29, some (N i)), (6, some (N i)), (7, some (N o))] [] :=
  ruleCX [1, 3, 28, 29, 6, 7] [st 3 (PA (sub_nat es.length 1 h1 h2)), st 0 (PA (p_idx false 1 _ _ _ h))] (by kernel_rfl)
end Go.Abs.Z

namespace Go.Abs.Z
open Go.Proofs Go.RowKit
set_option linter.unusedVariables false
def xL : Code → Code | .seq x _ => x | c => c
def xR : Code → Code | .seq _ y => y | c => c
def xK : Code → Code | .block _ c => c | .loop c => c | c => c
def xT : Code → Code | .cond _ x _ => x | c => c
def xE : Code → Code | .cond _ _ y => y | c => c
noncomputable def code6 : Code := Tryz.f6.body.getD .skip
noncomputable def g0 : Code := xL code6
noncomputable def gB : Code := xL (xR code6)
noncomputable def g3 : Code := xL (xR (xR code6))
noncomputable def gD : Code := xL (xR (xR (xR code6)))
noncomputable def g5 : Code := xL (xR (xR (xR (xR code6))))
noncomputable def g7 : Code := xL (xL (xR (xR (xR (xR (xR code6))))))
noncomputable def gL : Code := xK (xK (xR (xL (xR (xR (xR (xR (xR code6))))))))
noncomputable def g23 : Code := xL (xR (xR (xR (xR (xR (xR code6))))))
noncomputable def g8 : Code := xL gL
noncomputable def g9 : Code := xL (xK (xL (xR (xR gL))))
noncomputable def g22 : Code := xR (xR (xR gL))
noncomputable def gM : Code := xR (xK (xL (xR (xR gL))))
noncomputable def g10 : Code := xL gM
noncomputable def g11 : Code := xL (xK (xR gM))
noncomputable def g12 : Code := xT (xR (xK (xR gM)))
noncomputable def g13 : Code := xL (xE (xR (xK (xR gM))))
noncomputable def gC : Code := xT (xR (xE (xR (xK (xR gM)))))
noncomputable def g14 : Code := xL gC
noncomputable def g16 : Code := xL (xR gC)
noncomputable def g17 : Code := xL (xR (xR gC))
noncomputable def gT : Code := xR (xR (xR gC))
noncomputable def gU : Code := xL gT
noncomputable def gV : Code := xR gT
theorem shape6 : code6 = .seq g0 (.seq gB (.seq g3 (.seq gD (.seq g5 (.seq (.seq g7 (.block 0 (.loop gL))) (.seq g23 .ret)))))) := rfl
theorem shapeL : gL = .seq g8 (.seq (.cond (.tmp 30) .skip (.exit 0)) (.seq (.block 1 (.seq g9 (.seq g10 (.block 2 (.seq g11 (.cond (.tmp 35) g12 (.seq g13 (.cond (.tmp 41) (.seq g14 (.seq g16 (.seq g17 (.seq gU gV)))) .skip)))))))) g22)) := rfl
theorem ok6i : fi6.okB = true := by kernel_rfl
theorem q0 : comp Tryz.prog pur fi6 g0 = some k0 ∧ okCode 118 k0 = true := ⟨by kernel_rfl, by kernel_rfl⟩
theorem qB : comp Tryz.prog pur fi6 gB = some kB ∧ okCode 118 kB = true := ⟨by kernel_rfl, by kernel_rfl⟩
theorem q3 : comp Tryz.prog pur fi6 g3 = some k3 ∧ okCode 118 k3 = true := ⟨by kernel_rfl, by kernel_rfl⟩
theorem qD : comp Tryz.prog pur fi6 gD = some kD ∧ okCode 118 kD = true := ⟨by kernel_rfl, by kernel_rfl⟩
theorem q5 : comp Tryz.prog pur fi6 g5 = some k5 ∧ okCode 118 k5 = true := ⟨by kernel_rfl, by kernel_rfl⟩
theorem q7 : comp Tryz.prog pur fi6 g7 = some k7 ∧ okCode 118 k7 = true := ⟨by kernel_rfl, by kernel_rfl⟩
theorem q23 : comp Tryz.prog pur fi6 g23 = some k23 ∧ okCode 118 k23 = true := ⟨by kernel_rfl, by kernel_rfl⟩
theorem q8 : comp Tryz.prog pur fi6 g8 = some k8 ∧ okCode 118 k8 = true := ⟨by kernel_rfl, by kernel_rfl⟩
theorem q9 : comp Tryz.prog pur fi6 g9 = some k9 ∧ okCode 118 k9 = true := ⟨by kernel_rfl, by kernel_rfl⟩
theorem q22 : comp Tryz.prog pur fi6 g22 = some k22 ∧ okCode 118 k22 = true := ⟨by kernel_rfl, by kernel_rfl⟩
theorem q10 : comp Tryz.prog pur fi6 g10 = some k10 ∧ okCode 118 k10 = true := ⟨by kernel_rfl, by kernel_rfl⟩
theorem q11 : comp Tryz.prog pur fi6 g11 = some k11 ∧ okCode 118 k11 = true := ⟨by kernel_rfl, by kernel_rfl⟩
theorem q12 : comp Tryz.prog pur fi6 g12 = some k12 ∧ okCode 118 k12 = true := ⟨by kernel_rfl, by kernel_rfl⟩
theorem q13 : comp Tryz.prog pur fi6 g13 = some k13 ∧ okCode 118 k13 = true := ⟨by kernel_rfl, by kernel_rfl⟩
theorem q14 : comp Tryz.prog pur fi6 g14 = some k14 ∧ okCode 118 k14 = true := ⟨by kernel_rfl, by kernel_rfl⟩
theorem q16 : comp Tryz.prog pur fi6 g16 = some k16 ∧ okCode 118 k16 = true := ⟨by kernel_rfl, by kernel_rfl⟩
theorem qU : comp Tryz.prog pur fi6 gU = some kU ∧ okCode 118 kU = true := ⟨by kernel_rfl, by kernel_rfl⟩
theorem qV : comp Tryz.prog pur fi6 gV = some kV ∧ okCode 118 kV = true := ⟨by kernel_rfl, by kernel_rfl⟩
def SimF (cx : Cx) (ff : FF) (a : Act) (W : World) : Prop := ∃ A, Rel 118 ff A ∧ Sim cx a W A []
abbrev cxW (K : Nat → Prop) (G : Gh) (W : World) : Cx := mkCx fi6 ok6i K G W
theorem step {K : Nat → Prop} {G : Gh} {W0 : World} {c : Code} {ac : ACode} (hc : comp Tryz.prog pur fi6 c = some ac ∧ okCode 118 ac = true) {ff ff' : FF} {e : AExit} (h : CodeEv pur runA ac ff [] e ff' []) {a : Act} {W : World} (hs : SimF (cxW K G W0) ff a W) {n : Nat} {Q : Exit → Act → World → Prop}
    (hq : ∀ a' W', SimF (cxW K G W0) ff' a' W' → (∀ t, spares t c = true → at' a' t = at' a t) → Q e.ex a' W') : c.wpIn (FW none) n Tryz.prog Q a W := by
  obtain ⟨N, H⟩ := h
  obtain ⟨A, hr, hs⟩ := hs
  obtain ⟨ff1, h1, h2⟩ := H N (Nat.le_refl _) ff (Sub.refl _)
  obtain ⟨A', h3, h4⟩ := arunK_sim ac ff A [] _ _ _ hc.2 hr h1
  exact code_sound (runA_sound N) (cxOk ok6i K G W0) mixed c ac hc.1 N A [] _ A' [] h3 a W hs Q fun a' W' hs' hf => hq a' W' ⟨A', ⟨h4.len, fun t v hv => h4.get t v (h2 t v hv)⟩, hs'⟩ hf
theorem SimF.rep {cx : Cx} {ff : FF} {a : Act} {W : World} (hs : SimF cx ff a W) {t : Nat} {p : PV} (hk : (cx.kd t).val = true) (hf : p.free = true) (h : getK ff t = some p) : ∃ G A, Inv cx G a W A [] ∧ RepT G.I G.bl W (at' a t) p ∧ OwnOk G W (.slot t none) (at' a t) p := by
  obtain ⟨A, hr, G, hi⟩ := hs
  have := (SlotOk_val hk hf).1 (hi.slot t p (hr.get t p h))
  exact ⟨G, A, hi, this⟩
theorem SimF.int {cx : Cx} {ff : FF} {a : Act} {W : World} (hs : SimF cx ff a W) {t : Nat} {k : IntKind} {x : Int} (hk : (cx.kd t).val = true) (h : getK ff t = some (.int k x)) : at' a t = .int k x := by
  obtain ⟨G, A, _, h1, _⟩ := hs.rep hk rfl h
  exact h1.int_inv
theorem SimF.bool {cx : Cx} {ff : FF} {a : Act} {W : World} (hs : SimF cx ff a W) {t : Nat} {x : Bool} (hk : (cx.kd t).val = true) (h : getK ff t = some (.bool x)) : at' a t = .bool x := by
  obtain ⟨G, A, _, h1, _⟩ := hs.rep hk rfl h
  exact h1.bool_inv
theorem SimF.sz {K : Nat → Prop} {G : Gh} {W0 : World} {ff : FF} {a : Act} {W : World} (hs : SimF (cxW K G W0) ff a W) : a.tmps.size = 118 ∧ a.defers = [] := by
  obtain ⟨A, _, G, hi⟩ := hs
  exact ⟨hi.size, hi.defers⟩
theorem SimF.below {W0 : World} {G : Gh} {ff : FF} {a : Act} {W : World} (hs : SimF (cxW (fun b => b < W0.heap.size) G W0) ff a W) : Below W0.heap.size W0 W := by
  obtain ⟨A, _, G, hi⟩ := hs
  have hb := hi.base
  exact ⟨hb.os, hb.tape, hb.output, hb.grow, fun k hk => hb.keep k hk⟩
theorem fresh {K : Nat → Prop} {G : Gh} {a : Act} {W : World} (hsz : a.tmps.size = 118) (hdf : a.defers = []) (h1 : ∀ b x, G.I b x → b < W.heap.size) (h2 : ∀ b tag, G.ω b = some tag → b < W.heap.size ∧ ¬ K b) (h3 : ∀ b, K b → b < W.heap.size) (h4 : G.bl = [])
    {ff : FF} (hff : ∀ t p, getK ff t = some p → t < 118 ∧ (fi6.kind t).val = true ∧ p.free = true ∧ RepT G.I [] W (at' a t) p ∧ OwnOk G W (.slot t none) (at' a t) p) : SimF (cxW K G W) ff a W := by
  refine ⟨(List.range 118).map (getK ff), ⟨by simp, fun t p hp => ?_⟩, G, hdf, hsz, (by rw [List.length_map, List.length_range]; exact Nat.le_refl 118), ⟨fun _ _ => rfl, Same.refl _ _, fun _ _ h => h, fun _ _ h => .inl h, h1, h2, h3, Nat.le_refl _, List.prefix_rfl, rfl, rfl, rfl⟩, fun t p hp => ?_, fun id cs h => by simp at h, by rw [h4]; rfl⟩
  · have := (hff t p hp).1
    simp [Frm.get, this, hp]
  · have hp' : getK ff t = some p := by
      unfold Frm.get at hp
      rw [List.getElem?_map] at hp
      by_cases ht : t < 118
      · simp [List.getElem?_range ht] at hp
        exact hp
      · simp [List.getElem?_eq_none (show (List.range 118).length ≤ t by simp; omega)] at hp
    obtain ⟨_, g2, g3, g4, g5⟩ := hff t p hp'
    rw [SlotOk_val g2 g3]
    exact ⟨by rw [h4]; exact g4, g5⟩
def Stk (B : Nat) (W : World) (v : Value) (l : List Nat) : Prop :=
  (v = .slice none 0 0 ∧ l = []) ∨ ∃ (b off cap : Nat) (cs : Array Value) (elem : TypeId), v = .slice (some ⟨b, off, none⟩) l.length cap ∧ B ≤ b ∧ b < W.heap.size ∧ W.heap[b]? = some (.cells cs elem (0, 0)) ∧ off + cap ≤ cs.size ∧ l.length ≤ cap ∧
    ∀ (j x : Nat), l[j]? = some x → cs[off + j]? = some (.int .i64 x)
theorem Stk.stays {B : Nat} {W W' : World} {v : Value} {l : List Nat} (h : Stk B W v l) (hb : Below W.heap.size W W') : Stk B W' v l := by
  rcases h with h | ⟨b, off, cap, cs, elem, h1, h2, h3, h4, h5⟩
  · exact .inl h
  · exact .inr ⟨b, off, cap, cs, elem, h1, h2, by have := hb.size; omega, by rw [hb.block b h3]; exact h4, h5⟩
def pN (x : Nat) : PV := N x
theorem rep_stk {I : Imm} {W : World} {b off cap n : Nat} {cs : Array Value} {elem : TypeId} {own : Bool} {l : List Nat} (hI : ∀ j, j < l.length → I b (some (off + j))) (hn : n = l.length) (hc : l.length ≤ cap) (hh : W.heap[b]? = some (.cells cs elem (0, 0))) (hv : ∀ (j x : Nat), l[j]? = some x → cs[off + j]? = some (.int .i64 x)) :
    Rep I W (.slice (some ⟨b, off, none⟩) n cap) (.slice own 1 (l.map pN)) := by
  have key : ∀ (i : Nat) (e : PV) (j : Nat) (p : PV), (l.map pN)[i]? = some e → e.cells[j]? = some p → j = 0 ∧ ∃ x, l[i]? = some x ∧ p = N x ∧ e = N x := by
    intro i e j p he hp
    rw [List.getElem?_map] at he
    obtain ⟨x, hx, rfl⟩ := Option.map_eq_some_iff.1 he
    cases j with
    | zero => exact ⟨rfl, x, hx, by simpa [pN, PV.cells] using hp.symm, rfl⟩
    | succ j => simp [pN, PV.cells] at hp
  refine .slice (fun i _ => .int .i64 ((l[i]?).getD 0 : Nat)) (by simp [hn]) (by omega) (fun _ => rfl) (fun i e he => ?_) (fun i e j p he hp => ?_) (fun i e j p he hp => ?_) (fun i e j p he hp => ?_)
  · rw [List.getElem?_map] at he
    obtain ⟨x, _, rfl⟩ := Option.map_eq_some_iff.1 he
    rfl
  · obtain ⟨rfl, x, hx, _⟩ := key i e j p he hp
    have hl := (List.getElem?_eq_some_iff.1 hx).1
    simpa using hI i hl
  · obtain ⟨rfl, x, hx, _⟩ := key i e j p he hp
    have := hv i x hx
    simp [World.cell?, hh, hx, this]
  · obtain ⟨rfl, x, hx, rfl, _⟩ := key i e j p he hp
    rw [hx]; exact .int _ _
end Go.Abs.Z

namespace Go.Abs.Z
open Go.Proofs Go.RowKit
set_option linter.unusedVariables false
section
variable {o : Oper} {a : Act} {W : World} {x y : Operand}
theorem run_move (ho : o.op = .move x) : (execOp a.eval o).run Tryz.prog W = .ok (.value (a.eval x)) W := by simp [execOp, ho]
theorem run_asg (ho : o.op = .assign x) : (execOp a.eval o).run Tryz.prog W = .ok (.value (a.eval x)) W := by simp [execOp, ho]
theorem run_lenS {c : Call} {t e : TypeId} {p : Option Addr} {n cap : Nat} (ho : o.op = .call c) (hb : c.callee = .builtin .len) (ha : c.args = #[x]) (ht : c.argTypes = #[t]) (hu : Tryz.prog.underlying t = some (.slice e)) (hx : a.eval x = .slice p n cap) :
    (execOp a.eval o).run Tryz.prog W = .ok (.value (.int .i64 n)) W := by
  obtain ⟨consts, hr⟩ := run_builtin (P := Tryz.prog) (w := W) (a := a) ho hb
  rw [ha, ht] at hr
  rw [hr]
  simp [builtin, Builtin.len_, hx, underlying, hu, goInt]
theorem run_subI {t yt : TypeId} {n m : Int} (ho : o.op = .binOp .sub t x y yt) (hx : a.eval x = .int .i64 n) (hy : a.eval y = .int .i64 m) : (execOp a.eval o).run Tryz.prog W = .ok (.value (.int .i64 (IntKind.i64.wrap (n - m)))) W := by
  have h1 := run_eqGuard_int (P := Tryz.prog) (w := W) .sub t x y .i64 .i64 n m
  simp [execOp, ho, hx, hy, h1, Go.binOp, Op.intArith]
theorem run_cutS {t e : TypeId} {b off n cap m : Nat} (ho : o.op = .slice t x none (some y) none) (ht : Tryz.prog.underlying t = some (.slice e)) (hx : a.eval x = .slice (some ⟨b, off, none⟩) n cap) (hy : a.eval y = .int .i64 m) (hm : m ≤ n) (hc : n ≤ cap) (h0 : 0 < cap)
    {size : Nat} {ag : Bool} (hsz : cellsT Tryz.prog e = some (size, ag)) : (execOp a.eval o).run Tryz.prog W = .ok (.value (.slice (some ⟨b, off, none⟩) m cap)) W := by
  obtain ⟨hr, _, _⟩ := run_bounds (P := Tryz.prog) (G := ⟨fun _ _ => True, fun _ => none, []⟩) (a := a) (w := W) (isSlice := true) (cap := cap) (lo := none) (hi := some y) (bs := [.int .i64 m]) (l := 0) (h := m) hc (by simp [cutB]; omega) (fun i z p hz hp hf => by
    match i with
    | 0 => simp at hz hp; subst hz; subst hp; rw [hy]; exact .one (.inl (.int _ _))
    | i + 1 => simp at hp)
  have hsize : (sizeOf e).run Tryz.prog W = .ok size W := by
    unfold cellsT at hsz
    split at hsz
    · rename_i i d hi hd; cases hsz; simp [sizeOf, typeInfo, hi]
    · cases hsz
  simp only [Option.map_none, Option.map_some] at hr
  simp [execOp, ho, Instr.sliceAt, Instr.slice, underlying, ht, hx, hr, hsize, Addr.add]
end
theorem opsIn_cons {n : Nat} {ops : Array Oper} {Q : Exit → Act → World → Prop} {i : Nat} {rest : List Nat} {o : Oper} {a : Act} {W : World} (h : ops[i]? = some o) (hg : o.guard = none) (hd : ∀ c, o.op ≠ .defer c) {v : Value} (hr : (execOp a.eval o).run Tryz.prog W = .ok (.value v) W)
    (hk : wpOpsIn (FW none) n Tryz.prog ops Q rest (a.put o.dst v) W) : wpOpsIn (FW none) n Tryz.prog ops Q (i :: rest) a W := by
  rw [wpOpsIn_cons]
  unfold wpOpIn
  rw [h]
  dsimp only
  rw [if_pos (by simp [Region.wanted, hg])]
  exact opIn_value hd hr hk
theorem put_size (a : Act) (d : Option Nat) (v : Value) : (a.put d v).tmps.size = a.tmps.size := by
  cases d <;> simp [Act.put]
theorem put_defers (a : Act) (d : Option Nat) (v : Value) : (a.put d v).defers = a.defers := by
  cases d <;> rfl
theorem und38 : Tryz.prog.underlying 38 = some (.slice 3) := by kernel_rfl
theorem cell3 : cellsT Tryz.prog 3 = some (1, false) := by kernel_rfl
theorem pop17 {n : Nat} {Q : Exit → Act → World → Prop} {a : Act} {W : World} (hsz : a.tmps.size = 118) {B m : Nat} {l : List Nat} (hs : Stk B W (at' a 5) l) (hl : l.length = m + 1) (hm : m < 5000)
    (hq : ∀ a', a'.tmps.size = 118 → a'.defers = a.defers → (∀ t, spares t g17 = true → at' a' t = at' a t) → Stk B W (at' a' 5) (l.take m) → Q .normal a' W) : g17.wpIn (FW none) n Tryz.prog Q a W := by
  rcases hs with ⟨_, rfl⟩ | ⟨b, off, cap, cs, elem, h1, h2, h3, h4, h5, h6, h7⟩
  · simp at hl
  have hw : IntKind.i64.wrap ((l.length : Int) - 1) = (m : Int) := by
    rw [hl]
    simp [IntKind.wrap, IntKind.bits, IntKind.signed]; omega
  have hsp : ∀ t, spares t g17 = true → t ≠ 52 ∧ t ≠ 53 ∧ t ≠ 54 ∧ t ≠ 55 ∧ t ≠ 56 ∧ t ≠ 5 := by
    intro t ht
    refine ⟨?_, ?_, ?_, ?_, ?_, ?_⟩ <;> (rintro rfl; exact absurd ht (by decide +kernel))
  have e5 : at' a 5 = .slice (some ⟨b, off, none⟩) l.length cap := h1
  have ev : ∀ (a' : Act) (t : Nat), a'.eval (.tmp t) = at' a' t := fun _ _ => rfl
  have hp : ∀ (a' : Act) (d : Nat) (v : Value), a'.tmps.size = 118 → d < 118 → ∀ t, at' (a'.put (some d) v) t = if d = t then v else at' a' t := by
    intro a' d v h hd t
    by_cases e : d = t
    · subst e; rw [if_pos rfl]; exact at'_put _ _ _ (by omega)
    · rw [if_neg e]; exact at'_put_ne _ _ _ _ (fun h => e (Option.some.inj h))
  change (Code.region 17 _ false).wpIn (FW none) n Tryz.prog Q a W
  refine wpIn_region ?_
  change wpOpsIn _ _ _ _ Q [0, 1, 2, 3, 4, 5] a W
  refine opsIn_cons rfl rfl (by intro c h; cases h) (run_move rfl) ?_
  refine opsIn_cons rfl rfl (by intro c h; cases h) (run_move rfl) ?_
  refine opsIn_cons rfl rfl (by intro c h; cases h) (run_lenS (p := some ⟨b, off, none⟩) (n := l.length) (cap := cap) (x := .tmp 53) (t := 38) rfl rfl rfl rfl und38 ?_) ?_
  · simp [ev, hp, put_size, hsz, e5]
  refine opsIn_cons rfl rfl (by intro c h; cases h) (run_subI (n := l.length) (m := 1) (x := .tmp 54) (y := .const (.int .i64 1)) (t := 3) (yt := 3) rfl ?_ rfl) ?_
  · simp [ev, hp, put_size, hsz]
  rw [hw]
  refine opsIn_cons rfl rfl (by intro c h; cases h) (run_cutS (b := b) (off := off) (n := l.length) (cap := cap) (m := m) (x := .tmp 52) (y := .tmp 55) rfl und38 ?_ ?_ (by omega) h6 (by omega) cell3) ?_
  · simp [ev, hp, put_size, hsz, e5]
  · simp [ev, hp, put_size, hsz]
  refine opsIn_cons rfl rfl (by intro c h; cases h) (run_asg rfl) ?_
  refine hq _ (by simp [put_size, hsz]) (by simp [put_defers]) (fun t ht => ?_) ?_
  · obtain ⟨n1, n2, n3, n4, n5, n6⟩ := hsp t ht
    simp [hp, put_size, hsz, n1.symm, n2.symm, n3.symm, n4.symm, n5.symm, n6.symm]
  · refine .inr ⟨b, off, cap, cs, elem, ?_, h2, h3, h4, h5, by rw [List.length_take]; omega, fun j x hj => ?_⟩
    · simp [ev, hp, put_size, hsz, hl]
    · rw [List.getElem?_take] at hj
      split at hj
      · exact h7 j x hj
      · cases hj
end Go.Abs.Z

namespace Go.Abs.Z
open Go.Proofs Go.RowKit
set_option linter.unusedVariables false
theorem getK_mem : ∀ {ff : FF} {t : Nat} {p : PV}, getK ff t = some p → (t, some p) ∈ ff
  | (s, q) :: ff, t, p, h => by
    have h' : cond (Nat.beq s t) q (getK ff t) = some p := h
    cases hb : Nat.beq s t with
    | true =>
      rw [hb] at h'
      have : s = t := Nat.eq_of_beq_eq_true hb
      subst this
      have h'' : q = some p := h'
      rw [h'']; exact List.mem_cons_self ..
    | false => rw [hb] at h'; exact List.mem_cons_of_mem _ (getK_mem h')
theorem stk_of {K : Nat → Prop} {G : Gh} {W0 : World} {ff : FF} {a : Act} {W : World} {B : Nat} {l : List Nat} (hs : SimF (cxW K G W0) ff a W) (h : getK ff 5 = some (.slice true 1 (l.map pN))) (hK : ∀ b, b < B → K b) : Stk B W (at' a 5) l := by
  obtain ⟨G', A, hi, hr, ho⟩ := hs.rep (t := 5) rfl rfl h
  obtain ⟨b, off, cap, cs, elem, e, hω, _, _, hh, hsz, _, hn⟩ := ho
  obtain ⟨ad, len, cap', cv, ev, e1, e2, e3, e4, e5, e6, e7⟩ := hr.slice_inv
  have hb := hi.base.own b _ hω
  rw [e] at ev
  injection ev with v1 v2 v3
  injection v1 with v1
  subst v1
  rw [List.length_map] at e hn
  refine .inr ⟨b, off, cap, cs, elem, e, ?_, hb.1, hh, by omega, hn, fun j x hj => ?_⟩
  · rcases Nat.lt_or_ge b B with h' | h'
    · exact absurd (hK b h') hb.2
    · exact h'
  · have hj' : (l.map pN)[j]? = some (N x) := by rw [List.getElem?_map, hj]; rfl
    have c := e6 j (N x) 0 (N x) hj' rfl
    have r := (RepT.one (bl := []) (.inl (e7 j (N x) 0 (N x) hj' rfl))).int_inv
    rw [r] at c
    simpa [World.cell?, hh] using c
theorem push12 {n : Nat} {Q : Exit → Act → World → Prop} {a : Act} {W : World} (hsz : a.tmps.size = 118) (hdf : a.defers = []) {B i : Nat} {l : List Nat} (hB : B ≤ W.heap.size) (hs : Stk B W (at' a 5) l) (h6 : at' a 6 = .int .i64 i) (hl : l.length + 1 ≤ maxRow)
    (hq : ∀ a' W', a'.tmps.size = 118 → a'.defers = [] → (∀ t, spares t g12 = true → at' a' t = at' a t) → Stk B W' (at' a' 5) (l ++ [i]) → Below B W W' → Q .normal a' W') : g12.wpIn (FW none) n Tryz.prog Q a W := by
  rcases hs with ⟨h5, rfl⟩ | ⟨b, off, cap, cs, elem, h1, h2, h3, h4, h5, hcap, h7⟩
  · have hf : SimF (cxW (fun b => b < W.heap.size) ⟨IW W, fun _ => none, []⟩ W) [(5, some .nils), (6, some (N i))] a W := by
      refine fresh hsz hdf (fun b x h => h) (fun b tag h => by cases h) (fun b h => h) rfl fun t p hp => ?_
      have := getK_mem hp
      simp at this
      rcases this with ⟨rfl, rfl⟩ | ⟨rfl, rfl⟩
      · rw [h5]; exact ⟨by decide, rfl, rfl, .one (.inl .nils), trivial⟩
      · rw [h6]; exact ⟨by decide, rfl, rfl, .one (.inl (.int _ _)), trivial⟩
    refine step q12 (p12n (i := i)) hf fun a' W' hs' hfr => ?_
    exact hq a' W' hs'.sz.1 hs'.sz.2 hfr (stk_of (l := [i]) hs' rfl fun b hb => Nat.lt_of_lt_of_le hb hB) (hs'.below.mono hB)
  · let G : Gh := ⟨fun k x => k < W.heap.size ∧ (k = b → ∃ o, x = some o ∧ o < off + l.length), fun k => if k = b then some (.slot 5 none) else none, []⟩
    have hrep : RepT G.I [] W (at' a 5) (.slice true 1 (l.map pN)) := by
      rw [h1]
      exact .one (.inl (rep_stk (fun j hj => ⟨h3, fun _ => ⟨_, rfl, by omega⟩⟩) rfl hcap h4 h7))
    have hown : OwnOk G W (.slot 5 none) (at' a 5) (.slice true 1 (l.map pN)) := by
      refine ⟨b, off, cap, cs, elem, by rw [List.length_map]; exact h1, if_pos rfl, fun h => ?_, fun o ho h => ?_, h4, by omega, by omega, by rw [List.length_map]; exact hcap⟩
      · obtain ⟨o, e, _⟩ := h.2 rfl
        cases e
      · obtain ⟨o', e, h'⟩ := h.2 rfl
        cases e
        rw [List.length_map] at ho
        omega
    have hf : SimF (cxW (fun k => k < W.heap.size ∧ k ≠ b) G W) [(5, some (.slice true 1 (l.map pN))), (6, some (N i))] a W := by
      refine fresh (G := G) hsz hdf (fun b x h => h.1) (fun k tag h => ?_) (fun b h => h.1) rfl fun t p hp => ?_
      · simp only [G] at h
        split at h
        · rename_i e; subst e; exact ⟨h3, fun hk => hk.2 rfl⟩
        · cases h
      have := getK_mem hp
      simp at this
      rcases this with ⟨rfl, rfl⟩ | ⟨rfl, rfl⟩
      · exact ⟨by decide, rfl, rfl, hrep, hown⟩
      · rw [h6]; exact ⟨by decide, rfl, rfl, .one (.inl (.int _ _)), trivial⟩
    refine step q12 (p12s (i := i) (by rw [List.length_map]; exact hl)) hf fun a' W' hs' hfr => ?_
    refine hq a' W' hs'.sz.1 hs'.sz.2 hfr (stk_of (l := l ++ [i]) hs' (by rw [List.map_append]; rfl) fun k hk => ⟨by omega, by omega⟩) ?_
    obtain ⟨A, _, G', hi⟩ := hs'
    have hb := hi.base
    have hg : W.heap.size ≤ W'.heap.size := hb.grow
    exact ⟨hb.os, hb.tape, hb.output, hg, fun k hk => hb.keep k ⟨by omega, by omega⟩⟩
end Go.Abs.Z
