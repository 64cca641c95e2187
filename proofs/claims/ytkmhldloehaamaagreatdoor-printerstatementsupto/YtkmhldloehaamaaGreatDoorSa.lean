/- A part of the proof: S1 S2 S3 S4 S5 S6 S7 S8. -/
import Derived.Test.YtkmhldloehaamaaGreatDoorPc
import Derived.Test.YtkmhldloehaamaaGreatDoorPd

set_option linter.unusedVariables false
set_option linter.unusedSimpArgs false
namespace Go.Abs.Z
open Go.Proofs Go.RowKit
noncomputable section
def contOps (pur : FuncId → Bool) (call : Caller) (os : List AOp) (r : RFS) : RX := Option.rec (motive := fun _ => RX) none (fun r => opsK pur call os r.1 r.2) r
def finK (d : Option Nat) (ex clr : List Nat) (ff : FF) (r : Option (List (Option PV) × Sto)) : RFS := Option.rec (motive := fun _ => RFS) none (fun r =>
  cond (Nat.beq r.1.length (d.toList.length + ex.length)) (some (putK (d.toList ++ ex ++ clr) (r.1 ++ clr.map fun _ => none) ff, r.2)) (cond (d.isNone && ex.isEmpty && clr.isEmpty) (some (ff, r.2)) none)) r
def semT (pur : FuncId → Bool) (call : Caller) (k : AK) (d : Option Nat) (ex clr : List Nat) (ff : FF) (σ : Sto) (vs : Option (List PV)) : RFS := Option.rec (motive := fun _ => RFS) none (fun vs => finK d ex clr ff (sem pur call k vs σ)) vs
def seqT (pur : FuncId → Bool) (call : Caller) (n : Nat) (y : ACode) (r : RX) : RX := Option.rec (motive := fun _ => RX) none (fun r => cond (AxN r.1) (arunK pur call n y r.2.1 r.2.2) (some r)) r
def blockT (id : Nat) (r : RX) : RX := Option.rec (motive := fun _ => RX) none (fun r => AExit.rec (motive := fun _ => RX) (some r) (fun i => cond (Nat.beq i id) (some (.normal, r.2)) (some r)) (some r) r.1) r
def wantT (pur : FuncId → Bool) (call : Caller) (d : Option Nat) (k : AK) (xs : List AArg) (ff : FF) (σ : Sto) (b : Option Bool) : RFS := Option.rec (motive := fun _ => RFS) none (fun b => cond b (execK pur call ⟨none, d, k, xs, [], []⟩ ff σ) (some (putK d.toList [some AjU] ff, σ))) b
def consT (v : Option PV) (vs : Option (List PV)) : Option (List PV) := Option.rec (motive := fun _ => Option (List PV)) none (fun v => Option.rec (motive := fun _ => Option (List PV)) none (fun vs => some (v :: vs)) vs) v
def outT (rs : List (Nat × Option Nat)) (r : RX) : Option (PV × Sto) := Option.rec (motive := fun _ => Option (PV × Sto)) none (fun r => AExit.rec (motive := fun _ => Option (PV × Sto)) ((resK r.2.1 rs).bind fun vs => (packR vs).map fun x => (x, r.2.2)) (fun _ => none)
      ((resK r.2.1 rs).bind fun vs => (packR vs).map fun x => (x, r.2.2)) r.1) r
def withS (σ : Sto) (r : Option (List (Option PV))) : Option (List (Option PV) × Sto) := Option.rec (motive := fun _ => Option (List (Option PV) × Sto)) none (fun r => some (r, σ)) r
def callT (σ : Sto) (r : Option (PV × Sto)) : Option (List (Option PV) × Sto) := Option.rec (motive := fun _ => Option (List (Option PV) × Sto)) none (fun r => cond r.1.flat (some ([some r.1.Aq0], σ)) none) r
def one (r : Option PV) : Option (List (Option PV)) := Option.rec (motive := fun _ => Option (List (Option PV))) none (fun v => some [some v]) r
def oneD (r : Option PV) : Option (List (Option PV)) := Option.rec (motive := fun _ => Option (List (Option PV))) none (fun v => some [some v.Aq0]) r
end
section
variable {pur : FuncId → Bool} {call : Caller} {n : Nat} {ff : FF} {σ : Sto}
theorem k_skip : arunK pur call n .skip ff σ = some (.normal, ff, σ) := rfl
theorem k_region (ops : List AOp) : arunK pur call n (.region ops) ff σ = opsK pur call ops ff σ := rfl
theorem k_seq (x y : ACode) : arunK pur call n (.seq x y) ff σ = seqT pur call n y (arunK pur call n x ff σ) := rfl
theorem k_seq1 (y : ACode) : seqT pur call n y (some (.normal, ff, σ)) = arunK pur call n y ff σ := rfl
theorem k_seq2 (y : ACode) (i : Nat) : seqT pur call n y (some (.exit i, ff, σ)) = some (.exit i, ff, σ) := rfl
theorem k_seq3 (y : ACode) : seqT pur call n y (some (.ret, ff, σ)) = some (.ret, ff, σ) := rfl
theorem k_cond (c : AArg) (x y : ACode) : arunK pur call n (.cond c x y) ff σ = condK (evalK ff [c]) (arunK pur call n x ff σ) (arunK pur call n y ff σ) := rfl
theorem k_if1 (x y : RX) : condK (some [.bool true]) x y = x := rfl
theorem k_if2 (x y : RX) : condK (some [.bool false]) x y = y := rfl
theorem k_block (id : Nat) (c : ACode) : arunK pur call n (.block id c) ff σ = blockT id (arunK pur call n c ff σ) := rfl
theorem k_block1 (id : Nat) : blockT id (some (.normal, ff, σ)) = some (.normal, ff, σ) := rfl
theorem k_block2 (id i : Nat) : blockT id (some (.exit i, ff, σ)) = if i = id then some (.normal, ff, σ) else some (.exit i, ff, σ) := by
  show cond (Nat.beq i id) _ _ = _;by_cases h : i = id
  · subst h; rw [if_pos rfl, Nat.beq_refl]; rfl
  · rw [if_neg h];cases hb : Nat.beq i id with
    | false => rfl
    | true => exact absurd (Nat.eq_of_beq_eq_true hb) h
theorem k_block3 (id : Nat) : blockT id (some (.ret, ff, σ)) = some (.ret, ff, σ) := rfl
theorem k_loop (keep : List Bool) (c : ACode) : arunK pur call n (.loop keep c) ff σ = iterK keep (arunK pur call n c) n (AqN ff keep 0) σ := rfl
theorem k_exit (id : Nat) : arunK pur call n (.exit id) ff σ = some (.exit id, ff, σ) := rfl
theorem k_ret : arunK pur call n .ret ff σ = some (.ret, ff, σ) := rfl
theorem k_nil : opsK pur call [] ff σ = some (.normal, ff, σ) := rfl
theorem k_cons (o : AOp) (os : List AOp) : opsK pur call (o :: os) ff σ = contOps pur call os (execK pur call o ff σ) := rfl
theorem k_cont (os : List AOp) : contOps pur call os (some (ff, σ)) = opsK pur call os ff σ := rfl
theorem k_run0 (d : Option Nat) (k : AK) (xs : List AArg) (ex clr : List Nat) : execK pur call ⟨none, d, k, xs, ex, clr⟩ ff σ = semT pur call k d ex clr ff σ (evalK ff xs) := rfl
theorem k_run1 (t : Nat) (b : Bool) (d : Option Nat) (k : AK) (xs : List AArg) : execK pur call ⟨some (t, b), d, k, xs, [], []⟩ ff σ = wantT pur call d k xs ff σ (Az5 (getK ff t) b) := by
  show Option.rec (motive := fun _ => RFS) none _ (Az5 (getK ff t) b) = Option.rec (motive := fun _ => RFS) none _ (Az5 (getK ff t) b)
  cases Az5 (getK ff t) b with
  | none => rfl
  | some c =>
    cases c with
    | true => rfl
    | false =>
      show cond true (some (putK (d.toList ++ [] ++ []) [some AjU] ff, σ)) none = _;simp
theorem k_want1 (d : Option Nat) (k : AK) (xs : List AArg) : wantT pur call d k xs ff σ (some true) = execK pur call ⟨none, d, k, xs, [], []⟩ ff σ := rfl
theorem k_want2 (d : Nat) (k : AK) (xs : List AArg) : wantT pur call (some d) k xs ff σ (some false) = some ((d, some AjU) :: ff, σ) := rfl
theorem k_want3 (k : AK) (xs : List AArg) : wantT pur call none k xs ff σ (some false) = some (ff, σ) := rfl
theorem k_w1 (c b : Bool) : Az5 (some (.bool c)) b = some (c == b) := rfl
theorem k_wu (b : Bool) : Az5 (some AjU) b = some false := rfl
theorem k_sem (k : AK) (d : Option Nat) (ex clr : List Nat) (vs : List PV) : semT pur call k d ex clr ff σ (some vs) = finK d ex clr ff (sem pur call k vs σ) := rfl
theorem k_fin1 (d : Nat) (v : Option PV) : finK (some d) [] [] ff (some ([v], σ)) = some ((d, v) :: ff, σ) := rfl
theorem k_fin0 (v : Option PV) : finK none [] [] ff (some ([v], σ)) = some (ff, σ) := rfl
theorem k_fin2 (d e : Nat) (v u : Option PV) : finK (some d) [e] [] ff (some ([v, u], σ)) = some ((e, u) :: (d, v) :: ff, σ) := rfl
theorem k_fin3 (e : Nat) (v : Option PV) : finK none [e] [] ff (some ([v], σ)) = some ((e, v) :: ff, σ) := rfl
theorem k_semp (k : PK) (vs : List PV) : sem pur call (.p k) vs σ = withS σ (semP k vs) := by
  show (semP k vs).map (·, σ) = _;cases semP k vs <;> rfl
theorem k_semr (k : RK) (vs : List PV) : sem pur call (.r k) vs σ = withS σ (semR k vs σ) := by
  show (semR k vs σ).map (·, σ) = _;cases semR k vs σ <;> rfl
theorem k_with (r : List (Option PV)) : withS σ (some r) = some (r, σ) := rfl
theorem k_get1 (t : Nat) (v : Option PV) (ff : FF) : getK ((t, v) :: ff) t = v := by
  rw [getK_cons];have : Nat.beq t t = true := Nat.beq_refl _;simp [this]
theorem k_get (s t : Nat) (v : Option PV) (ff : FF) : getK ((s, v) :: ff) t = if s = t then v else getK ff t := by
  by_cases h : s = t
  · rw [if_pos h, h]; exact k_get1 ..
  · rw [if_neg h, getK_cons];cases hb : Nat.beq s t with
    | false => simp [hb]
    | true => exact absurd (Nat.eq_of_beq_eq_true hb) h
theorem k_ev0 : evalK ff [] = some [] := rfl
theorem k_ev1 (t : Nat) (xs : List AArg) : evalK ff (.slot t :: xs) = consT (getK ff t) (evalK ff xs) := rfl
theorem k_ev2 (v : PV) (xs : List AArg) : evalK ff (.val v :: xs) = consT (some v) (evalK ff xs) := rfl
theorem k_ct (v : PV) (vs : List PV) : consT (some v) (some vs) = some (v :: vs) := rfl
theorem k_fn (fn : AFunc) (xs : List PV) (h : (Nat.beq xs.length fn.nargs && Nat.ble xs.length fn.ntmps) = true) : AqC pur call n fn xs σ = outT fn.results (arunK pur call n fn.code (initK xs 0) σ) := by
  unfold AqC;rw [h]; rfl
theorem k_out1 (t : Nat) (v : PV) (h : getK ff t = some v) (hf : v.free = true) : outT [(t, none)] (some (.ret, ff, σ)) = some (v.Aq0, σ) := by
  show ((resK ff [(t, none)]).bind fun vs => (packR vs).map fun x => (x, σ)) = _
  have : resK ff [(t, none)] = some [v.Aq0] := by
    show (match getK ff t, some [] with | some v, some vs => if resOk v none then some (v.Aq0 :: vs) else none | _, _ => none) = _
    rw [h]; simp [resOk, hf]
  rw [this]; rfl
theorem k_i1 (x : PV) : initK [x] 0 = [(0, some x)] := rfl
theorem k_i2 (x y : PV) : initK [x, y] 0 = [(0, some x), (1, some y)] := rfl
theorem k_i3 (x y z : PV) : initK [x, y, z] 0 = [(0, some x), (1, some y), (2, some z)] := rfl
theorem p_mv (v : PV) (h : v.free = true) : semP .mv [v] = some [some v.Aq0] := by simp [semP, h]
theorem p_mvi (k : IntKind) (x : Int) : semP .mv [.int k x] = some [some (.int k x)] := rfl
theorem p_mvb (b : Bool) : semP .mv [.bool b] = some [some (.bool b)] := rfl
theorem p_mvs (s : List UInt8) : semP .mv [.str s] = some [some (.str s)] := rfl
theorem p_pk1 (a b : PV) : semP .pick [.bool true, a, b] = semP .mv [a] := rfl
theorem p_pk2 (a b : PV) : semP .pick [.bool false, a, b] = semP .mv [b] := rfl
theorem p_not (b : Bool) : semP .not [.bool b] = some [some (.bool !b)] := rfl
theorem p_lss (x y : Int) : semP (.bin .lss 0) [.int .i64 x, .int .i64 y] = some [some (.bool (decide (x < y)))] := rfl
theorem p_leq (x y : Int) : semP (.bin .leq 0) [.int .i64 x, .int .i64 y] = some [some (.bool (decide (x ≤ y)))] := rfl
theorem p_gtr (x y : Int) : semP (.bin .gtr 0) [.int .i64 x, .int .i64 y] = some [some (.bool (decide (y < x)))] := rfl
theorem p_geq (x y : Int) : semP (.bin .geq 0) [.int .i64 x, .int .i64 y] = some [some (.bool (decide (y ≤ x)))] := rfl
theorem p_eql (x y : Int) : semP (.bin .eql 0) [.int .i64 x, .int .i64 y] = some [some (.bool (x == y))] := rfl
theorem p_neq (x y : Int) : semP (.bin .neq 0) [.int .i64 x, .int .i64 y] = some [some (.bool (x != y))] := rfl
theorem p_add (x y : Int) : semP (.bin .add 0) [.int .i64 x, .int .i64 y] = some [some (.int .i64 (IntKind.i64.wrap (x + y)))] := rfl
theorem p_seq (x y : List UInt8) : semP (.bin .eql 0) [.str x, .str y] = some [some (.bool (x == y))] := rfl
theorem p_beq (x y : Bool) : semP (.bin .eql 1) [.bool x, .bool y] = some [some (.bool (x == y))] := rfl
theorem p_ld (m : Nat) (ag : Bool) (v : PV) : semR (.ld m ag) [.vptr v] σ = oneD (ldV m ag (.vptr v)) := by
  show (ldV m ag (.vptr v)).map (fun v => [some v.Aq0]) = _
  cases ldV m ag (.vptr v) <;> rfl
theorem p_bx (v : PV) (h : v.flat = true) : semP .bx [v] = some [some (.vptr v.Aq0)] := by simp [semP, h]
end
end Go.Abs.Z

namespace Go.Abs.Z
open Go.Proofs Go.RowKit
def nd (k : Int) (t : List UInt8) (a e : Int) (kp : PV) : PV := .agg [.int .i64 k, .str t, .int .i64 a, .int .i64 e, kp]
def okKid (kp : PV) : Prop := kp.own0 = kp ∧ kp.isAgg = false ∧ kp.isSelf = false
section
variable {pur : FuncId → Bool} {call : Caller} {n : Nat} {ff : FF} {σ : Sto} {k a e : Int} {t : List UInt8} {kp : PV}
theorem nd_disown (h : okKid kp) : (nd k t a e kp).Aq0 = nd k t a e kp := by
  show PV.agg [.int .i64 k, .str t, .int .i64 a, .int .i64 e, kp.own0] = _;rw [h.1]; rfl
theorem nd_flat : (nd k t a e kp).flat = true := rfl
theorem nd_free : (nd k t a e kp).free = true := rfl
theorem p_bxn (h : okKid kp) : semP .bx [nd k t a e kp] = some [some (.vptr (nd k t a e kp))] := by rw [p_bx _ nd_flat, nd_disown h]
theorem p_ldn (h : okKid kp) : semR (.ld 5 true) [.vptr (nd k t a e kp)] σ = some [some (nd k t a e kp)] := by
  rw [p_ld];show some [some (nd k t a e kp).Aq0] = _;rw [nd_disown h]
theorem p_fa0 : semP (.fa 0 1 false) [.vptr (nd k t a e kp)] = some [some (.vptr (.int .i64 k))] := rfl
theorem p_fa1 : semP (.fa 1 1 false) [.vptr (nd k t a e kp)] = some [some (.vptr (.str t))] := rfl
theorem p_fa4 (h : okKid kp) : semP (.fa 4 1 false) [.vptr (nd k t a e kp)] = some [some (.vptr kp)] := by
  simp [semP, faV, sub, nd, PV.cells, h.2.1, h.2.2]
theorem p_ldi (x : Int) : semR (.ld 1 false) [.vptr (.int .i64 x)] σ = some [some (.int .i64 x)] := rfl
theorem p_lds (x : List UInt8) : semR (.ld 1 false) [.vptr (.str x)] σ = some [some (.str x)] := rfl
theorem k_calls (f : FuncId) (vs : List PV) : sem pur call (.c f) vs σ = cond (vs.all PV.free && vs.all PV.flat) (callT σ (call f (vs.map PV.Aq0) [])) none := by
  simp only [sem];cases hb : (vs.all PV.free && vs.all PV.flat) with
  | false => rfl
  | true =>
    cases hc : call f (vs.map PV.Aq0) [] with
    | none => rfl
    | some r => obtain ⟨r, s⟩ := r; show (if r.flat = true then _ else _) = cond r.flat _ _; cases r.flat <;> rfl
theorem k_call0 (f : FuncId) : sem pur call (.c f) [] σ = callT σ (call f [] []) := by rw [k_calls]; rfl
theorem k_call1 (f : FuncId) (x : PV) : sem pur call (.c f) [x] σ = cond ((x.free && true) && (x.flat && true)) (callT σ (call f [x.Aq0] [])) none := by rw [k_calls]; rfl
theorem k_call2 (f : FuncId) (x y : PV) : sem pur call (.c f) [x, y] σ = cond ((x.free && (y.free && true)) && (x.flat && (y.flat && true))) (callT σ (call f [x.Aq0, y.Aq0] [])) none := by rw [k_calls]; rfl
theorem k_call3 (f : FuncId) (x y z : PV) : sem pur call (.c f) [x, y, z] σ = cond ((x.free && (y.free && (z.free && true))) && (x.flat && (y.flat && (z.flat && true)))) (callT σ (call f [x.Aq0, y.Aq0, z.Aq0] [])) none := by rw [k_calls]; rfl
theorem k_callT (r : PV) (s : Sto) : callT σ (some (r, s)) = cond r.flat (some ([some r.Aq0], σ)) none := rfl
theorem v_free_i (k : IntKind) (x : Int) : (PV.int k x).free = true := rfl
theorem v_free_b (x : Bool) : (PV.bool x).free = true := rfl
theorem v_free_s (x : List UInt8) : (PV.str x).free = true := rfl
theorem v_free_l (o : Bool) (s : Nat) (x : List PV) : (PV.slice o s x).free = true := rfl
theorem v_free_n : PV.nils.free = true := rfl
theorem v_flat_i (k : IntKind) (x : Int) : (PV.int k x).flat = true := rfl
theorem v_flat_b (x : Bool) : (PV.bool x).flat = true := rfl
theorem v_flat_s (x : List UInt8) : (PV.str x).flat = true := rfl
theorem v_flat_l (o : Bool) (s : Nat) (x : List PV) : (PV.slice o s x).flat = true := rfl
theorem v_flat_n : PV.nils.flat = true := rfl
theorem v_flat_m (ks : List Ky) (vs : List PV) : (PV.mapv ks vs).flat = true := rfl
theorem v_dis_i (k : IntKind) (x : Int) : (PV.int k x).Aq0 = .int k x := rfl
theorem v_dis_b (x : Bool) : (PV.bool x).Aq0 = .bool x := rfl
theorem v_dis_s (x : List UInt8) : (PV.str x).Aq0 = .str x := rfl
theorem v_dis_l (o : Bool) (s : Nat) (x : List PV) : (PV.slice o s x).Aq0 = .slice false s x := rfl
theorem v_dis_n : PV.nils.Aq0 = .nils := rfl
theorem v_dis_m (ks : List Ky) (vs : List PV) : (PV.mapv ks vs).Aq0 = .mapv ks vs := rfl
theorem p_mvl (o : Bool) (s : Nat) (x : List PV) : semP .mv [.slice o s x] = some [some (.slice false s x)] := rfl
theorem p_mvn : semP .mv [.nils] = some [some .nils] := rfl
theorem p_lenl (o : Bool) (s : Nat) (x : List PV) : semP (.len false) [.slice o s x] = some [some (.int .i64 x.length)] := rfl
theorem p_lenn : semP (.len false) [.nils] = some [some (.int .i64 0)] := rfl
theorem p_lens (x : List UInt8) : semP (.len true) [.str x] = some [some (.int .i64 x.length)] := rfl
theorem p_idx (o : Bool) (s j : Nat) (x : List PV) (v : PV) (h : x[j]? = some v) : semP (.idx s) [.slice o s x, .int .i64 j] = some [some (.vptr v)] := by
  have : (0 : Int) ≤ (j : Int) := by omega
  simp [semP, idxV, h, this]
noncomputable def iterT (keep : List Bool) (body : FF → Sto → RX) (n : Nat) (r : RX) : RX := Option.rec (motive := fun _ => RX) none (fun r => cond (AxN r.1) (iterK keep body n (AqN r.2.1 keep 0) r.2.2) (some r)) r
theorem AjN (keep : List Bool) (body : FF → Sto → RX) : iterK keep body (n + 1) ff σ = iterT keep body n (body ff σ) := rfl
theorem k_itn (keep : List Bool) (body : FF → Sto → RX) : iterT keep body n (some (.normal, ff, σ)) = iterK keep body n (AqN ff keep 0) σ := rfl
theorem k_ite (keep : List Bool) (body : FF → Sto → RX) (i : Nat) : iterT keep body n (some (.exit i, ff, σ)) = some (.exit i, ff, σ) := rfl
theorem k_itr (keep : List Bool) (body : FF → Sto → RX) : iterT keep body n (some (.ret, ff, σ)) = some (.ret, ff, σ) := rfl
theorem k_m0 (i : Nat) : AqN ff [] i = [] := rfl
theorem k_mt (i : Nat) (ks : List Bool) : AqN ff (true :: ks) i = (i, getK ff i) :: AqN ff ks (i + 1) := rfl
theorem k_mf (i : Nat) (ks : List Bool) : AqN ff (false :: ks) i = AqN ff ks (i + 1) := rfl
end
attribute [simp] k_i1 k_i2 k_i3 k_skip k_seq k_seq1 k_seq2 k_seq3 k_region k_cons k_nil k_cont k_run0 k_run1 k_want1 k_want2 k_want3 k_w1 k_wu k_sem k_fin0 k_fin1 k_fin2 k_fin3 k_semp k_semr k_with k_get k_ev0 k_ev1 k_ev2 k_ct k_ret k_cond k_if1 k_if2
  k_block k_block1 k_block2 k_block3 k_exit k_loop k_m0 k_mt k_mf k_itn k_ite k_itr k_call0 k_call1 k_call2 k_call3 k_callT
  p_mvi p_mvb p_mvs p_mvl p_mvn p_pk1 p_pk2 p_not p_lss p_leq p_gtr p_geq p_eql p_neq p_add p_seq p_beq p_fa0 p_fa1 p_fa4 p_ldi p_lds p_bxn p_ldn p_lenl p_lenn p_lens
  nd_disown nd_flat nd_free v_free_i v_free_b v_free_s v_free_l v_free_n v_flat_i v_flat_b v_flat_s v_flat_l v_flat_n v_flat_m v_dis_i v_dis_b v_dis_s v_dis_l v_dis_n v_dis_m
variable {call : Caller} {n : Nat} {k a e : Int} {t : List UInt8} {kp : PV}
theorem isExpr_run (call : Caller) (n : Nat) (k : Int) : AqC pur call n a27 [.int .i64 k] [] = some (.bool (decide (20 ≤ k) && decide (k ≤ 29)), []) := by
  rw [k_fn _ _ rfl];cases h1 : decide (20 ≤ k) <;> cases h2 : decide (k ≤ 29) <;> simp [a27, h1, h2] <;> rfl
end Go.Abs.Z

namespace Go.Abs.Z
open Go.Proofs Go.RowKit
variable {call : Caller} {n : Nat} {k a e : Int} {t : List UInt8} {kp : PV}
def opKeys : List Ky := [(.s [111, 114]), (.s [97, 110, 100]), (.s [61, 61]), (.s [33, 61]), (.s [60]), (.s [60, 61]), (.s [62]), (.s [62, 61]), (.s [43]), (.s [45]), (.s [42]), (.s [47]), (.s [37])]
def opVals : List PV := [.int .i64 1, .int .i64 2, .int .i64 4, .int .i64 4, .int .i64 4, .int .i64 4, .int .i64 4, .int .i64 4, .int .i64 5, .int .i64 5, .int .i64 6, .int .i64 6, .int .i64 6]
theorem levels_run : AqC pur call n a26 [] [] = some (.mapv opKeys opVals, []) := by kernel_rfl
def opLev (t : List UInt8) : Option Int :=
  if t = [111, 114] then some 1 else if t = [97, 110, 100] then some 2 else if t = [61, 61] then some 4 else if t = [33, 61] then some 4 else if t = [60] then some 4 else if t = [60, 61] then some 4 else if t = [62] then some 4 else if t = [62, 61] then some 4
  else if t = [43] then some 5 else if t = [45] then some 5 else if t = [42] then some 6 else if t = [47] then some 6 else if t = [37] then some 6 else none
theorem look_op : semP (.look (.int .i64 0) true false) [.mapv opKeys opVals, .str t] = some [some (.tuple [.int .i64 ((opLev t).getD 0), .bool (opLev t).isSome])] := by
  by_cases h0 : t = [111, 114]
  · subst h0; rfl
  by_cases h1 : t = [97, 110, 100]
  · subst h1; rfl
  by_cases h2 : t = [61, 61]
  · subst h2; rfl
  by_cases h3 : t = [33, 61]
  · subst h3; rfl
  by_cases h4 : t = [60]
  · subst h4; rfl
  by_cases h5 : t = [60, 61]
  · subst h5; rfl
  by_cases h6 : t = [62]
  · subst h6; rfl
  by_cases h7 : t = [62, 61]
  · subst h7; rfl
  by_cases h8 : t = [43]
  · subst h8; rfl
  by_cases h9 : t = [45]
  · subst h9; rfl
  by_cases h10 : t = [42]
  · subst h10; rfl
  by_cases h11 : t = [47]
  · subst h11; rfl
  by_cases h12 : t = [37]
  · subst h12; rfl
  have ho : opLev t = none := by simp only [opLev, h0, h1, h2, h3, h4, h5, h6, h7, h8, h9, h10, h11, h12, if_false]
  have hf : findKey (.s t) opKeys opVals = none := by simp only [opKeys, opVals, findKey, Ky.s.injEq, Ne.symm h0, Ne.symm h1, Ne.symm h2, Ne.symm h3, Ne.symm h4, Ne.symm h5, Ne.symm h6, Ne.symm h7, Ne.symm h8, Ne.symm h9, Ne.symm h10, Ne.symm h11, Ne.symm h12, if_false]
  simp only [semP, lookV, kyOf];rw [hf, ho]; rfl
def lev (k : Int) (t : List UInt8) : Int :=
  if k < 20 then 0 else if 29 < k then 0 else if k = 29 then (opLev t).getD 8 else if k = 28 then (if t = [110, 111, 116] then 3 else if t = [45] then 7 else 8) else 8
theorem p_ext0 (x y : PV) : semP (.ext 0) [.tuple [x, y]] = cond (x.free && y.free) (some [some x.Aq0]) none := by
  simp only [semP, List.all_cons, List.all_nil, Bool.and_true];cases (x.free && y.free) <;> rfl
theorem p_ext1 (x y : PV) : semP (.ext 1) [.tuple [x, y]] = cond (x.free && y.free) (some [some y.Aq0]) none := by
  simp only [semP, List.all_cons, List.all_nil, Bool.and_true];cases (x.free && y.free) <;> rfl
theorem p_mvt (x : List PV) : semP .mv [.tuple x] = some [some (.tuple x)] := rfl
attribute [simp] p_ext0 p_ext1 p_mvt look_op
theorem levA_run (h26 : call 56 [] [] = some (.mapv opKeys opVals, [])) (hk : okKid kp) : AqC pur call n a10 [nd k t a e kp] [] = some (.int .i64 (lev k t), []) := by
  rw [k_fn _ _ rfl];unfold lev;by_cases h1 : k < 20
  · cases ho : opLev t <;> simp [a10, h26, hk, h1, ho] <;> rfl
  · by_cases h2 : 29 < k
    · cases ho : opLev t <;> simp [a10, h26, hk, h1, h2, ho] <;> rfl
    · by_cases h3 : k = 29
      · subst h3;cases ho : opLev t with
        | none => simp [a10, h26, hk, ho]; rfl
        | some l => simp [a10, h26, hk, ho]; rfl
      · have h3' : (k == 29) = false := by simpa using h3
        by_cases h4 : k = 28
        · subst h4;by_cases h5 : t = [110, 111, 116]
          · have ho : opLev [110, 111, 116] = none := by decide
            subst h5; simp [a10, h26, hk, ho]; rfl
          · have h5' : (t == [110, 111, 116]) = false := by simpa using h5
            by_cases h6 : t = [45]
            · have ho : opLev [45] = some 5 := by decide
              subst h6; simp [a10, h26, hk, ho]; rfl
            · have h6' : (t == [45]) = false := by simpa using h6
              cases ho : opLev t <;> simp [a10, h26, hk, h5, h6, h5', h6', ho] <;> rfl
        · have h4' : (k == 28) = false := by simpa using h4
          cases ho : opLev t <;> simp [a10, h26, hk, h1, h2, h3, h4, h3', h4', ho] <;> rfl
def body28 : ACode := .seq (.seq (.region [⟨none, (some 6), (.p .mv), [(.slot 5)], [], []⟩, ⟨none, (some 7), (.p .mv), [(.slot 0)], [], []⟩, ⟨none, (some 8), (.p (.len false)), [(.slot 7)], [], []⟩, ⟨none, (some 9), (.p (.bin .lss 0)), [(.slot 6), (.slot 8)], [], []⟩]) (.cond (.slot 9) .skip (.exit 0))) (.seq (.block 1 (.seq (.region [⟨none, (some 12), (.p .mv), [(.slot 0)], [], []⟩, ⟨none, (some 13), (.p .mv), [(.slot 5)], [], []⟩, ⟨none, (some 14), (.p (.idx 1)), [(.slot 12), (.slot 13)], [], []⟩, ⟨none, (some 15), (.r (.ld 1 false)), [(.slot 14)], [], []⟩, ⟨none, (some 16), (.p .mv), [(.slot 1)], [], []⟩, ⟨none, (some 17), (.p (.bin .eql 0)), [(.slot 15), (.slot 16)], [], []⟩]) (.cond (.slot 17) (.seq (.region [⟨none, (some 4), (.p .mv), [(.val (.bool true))], [], []⟩]) .ret) .skip))) (.region [⟨none, (some 10), (.p .mv), [(.slot 5)], [], []⟩, ⟨none, (some 11), (.p (.bin .add 0)), [(.slot 10), (.val (.int .i64 1))], [], []⟩, ⟨none, (some 5), (.p .mv), [(.slot 11)], [], []⟩]))
def keep28 : List Bool := [true, true, false, false, false, true, false, false, false, false, false, false, false, false, false, false, false, false]
theorem AzF (j : Nat) (h : j < 4611686018427387904) : IntKind.i64.wrap ((j : Int) + 1) = ((j + 1 : Nat) : Int) := by
  simp [IntKind.wrap, IntKind.bits, IntKind.signed]; omega
theorem has_loop (ls : List (List UInt8)) (hl : ls.length < 4611686018427387904) (N : Nat) (hno : ∀ x ∈ ls, x ≠ t) :
    ∀ (r j : Nat), j + r = ls.length → ∀ m, r + 1 ≤ m → ∃ ff, iterK keep28 (arunK pur call N body28) m [(0, some (.slice false 1 (ls.map .str))), (1, some (.str t)), (5, some (.int .i64 j))] [] =
      some (.exit 0, ff, []) := by
  intro r
  induction r with
  | zero =>
    intro j hj m hm;obtain ⟨m, rfl⟩ : ∃ m', m = m' + 1 := ⟨m - 1, by omega⟩
    have hj' : ¬ ((j : Int) < (ls.length : Int)) := by omega
    rw [AjN];simp [body28, hj']
  | succ r ih =>
    intro j hj m hm;obtain ⟨m, rfl⟩ : ∃ m', m = m' + 1 := ⟨m - 1, by omega⟩
    have hlt : j < ls.length := by omega
    have hj' : ((j : Int) < (ls.length : Int)) := by omega
    have hw := AzF j (by omega)
    have hi : semP (.idx 1) [.slice false 1 (ls.map .str), .int .i64 (j : Int)] = some [some (.vptr (.str ls[j]))] := p_idx _ _ _ _ _ (by simp [hlt])
    rw [AjN];have ht' : (ls[j] == t) = false := by simpa using hno _ (List.getElem_mem hlt)
    obtain ⟨ff, h1⟩ := ih (j + 1) (by omega) m (by omega)
    refine ⟨ff, ?_⟩
    rw [← hw] at h1;simp [body28, hj', hi, ht', keep28] at h1 ⊢;exact h1
theorem has_run (ls : List (List UInt8)) (hl : ls.length < 4611686018427387904) (hno : ∀ x ∈ ls, x ≠ t) (hn : ls.length + 1 ≤ n) : AqC pur call n a28 [.slice false 1 (ls.map .str), .str t] [] = some (.bool false, []) := by
  rw [k_fn _ _ rfl];obtain ⟨ff, h⟩ := has_loop (call := call) ls hl n hno ls.length 0 (by omega) n hn
  simp only [body28, keep28] at h;simp [a28];simp at h;simp [h];rfl
theorem has_run0 (hn : 1 ≤ n) : AqC pur call n a28 [.nils, .str t] [] = some (.bool false, []) := by
  obtain ⟨n, rfl⟩ : ∃ m', n = m' + 1 := ⟨n - 1, by omega⟩
  rfl
def opsOf : Nat → PV
  | 1 => .slice false 1 [.str [111, 114]]
  | 2 => .slice false 1 [.str [97, 110, 100]]
  | 4 => .slice false 1 [.str [61, 61], .str [33, 61], .str [60], .str [60, 61], .str [62], .str [62, 61]]
  | 5 => .slice false 1 [.str [43], .str [45]]
  | 6 => .slice false 1 [.str [42], .str [47], .str [37]]
  | _ => .nils
theorem ops_run (i : Nat) (h : i ∈ [1, 2, 3, 4, 5, 6]) : AqC pur call n a29 [.int .i64 i] [] = some (opsOf i, []) := by
  simp at h;rcases h with rfl | rfl | rfl | rfl | rfl | rfl <;> rfl
theorem isExpr_in (h1 : ¬ k < 20) (h2 : ¬ 29 < k) : (decide (20 ≤ k) && decide (k ≤ 29)) = true := by simp; omega
theorem isExpr_out (h : k < 20 ∨ 29 < k) : (decide (20 ≤ k) && decide (k ≤ 29)) = false := by simp; omega
end Go.Abs.Z

namespace Go.Abs.Z
open Go.Proofs Go.RowKit
variable {call : Caller} {n : Nat} {k a e : Int} {t : List UInt8} {kp : PV}
def AqX : Nat → List (List UInt8)
  | 1 => [[111, 114]]
  | 2 => [[97, 110, 100]]
  | 4 => [[61, 61], [33, 61], [60], [60, 61], [62], [62, 61]]
  | 5 => [[43], [45]]
  | 6 => [[42], [47], [37]]
  | _ => []
def hasOp (i : Nat) (t : List UInt8) : Bool := (AqX i).contains t
theorem hasOp_run (i : Nat) (hi : i ∈ [1, 2, 3, 4, 5, 6]) (hn : 10 ≤ n) : AqC pur call n a28 [opsOf i, .str t] [] = some (.bool (hasOp i t), []) := by
  obtain ⟨n, rfl⟩ : ∃ m', n = m' + 10 := ⟨n - 10, by omega⟩
  cases hb : hasOp i t with
  | true =>
    simp at hi;rcases hi with rfl | rfl | rfl | rfl | rfl | rfl <;> simp [hasOp, AqX] at hb
    · subst hb; rfl
    · subst hb; rfl
    · rcases hb with rfl | rfl | rfl | rfl | rfl | rfl <;> rfl
    · rcases hb with rfl | rfl <;> rfl
    · rcases hb with rfl | rfl | rfl <;> rfl
  | false =>
    have hno : ∀ x ∈ AqX i, x ≠ t := by
      rintro x hx rfl
      simp [hasOp] at hb;exact hb hx
    simp at hi;rcases hi with rfl | rfl | rfl | rfl | rfl | rfl
    · exact has_run (AqX 1) (by decide) hno (by simp [AqX])
    · exact has_run (AqX 2) (by decide) hno (by simp [AqX])
    · exact has_run0 (by omega)
    · exact has_run (AqX 4) (by decide) hno (by simp [AqX])
    · exact has_run (AqX 5) (by decide) hno (by simp [AqX])
    · exact has_run (AqX 6) (by decide) hno (by simp [AqX])
theorem opLev_has : opLev t = if hasOp 1 t then some 1 else if hasOp 2 t then some 2 else if hasOp 4 t then some 4 else if hasOp 5 t then some 5 else if hasOp 6 t then some 6 else none := by
  by_cases h0 : t = [111, 114]
  · subst h0; rfl
  by_cases h1 : t = [97, 110, 100]
  · subst h1; rfl
  by_cases h2 : t = [61, 61]
  · subst h2; rfl
  by_cases h3 : t = [33, 61]
  · subst h3; rfl
  by_cases h4 : t = [60]
  · subst h4; rfl
  by_cases h5 : t = [60, 61]
  · subst h5; rfl
  by_cases h6 : t = [62]
  · subst h6; rfl
  by_cases h7 : t = [62, 61]
  · subst h7; rfl
  by_cases h8 : t = [43]
  · subst h8; rfl
  by_cases h9 : t = [45]
  · subst h9; rfl
  by_cases h10 : t = [42]
  · subst h10; rfl
  by_cases h11 : t = [47]
  · subst h11; rfl
  by_cases h12 : t = [37]
  · subst h12; rfl
  simp [opLev, hasOp, AqX, h0, h1, h2, h3, h4, h5, h6, h7, h8, h9, h10, h11, h12]
theorem w2 : IntKind.i64.wrap 2 = 2 := by decide
theorem w3 : IntKind.i64.wrap 3 = 3 := by decide
theorem w4 : IntKind.i64.wrap 4 = 4 := by decide
theorem w5 : IntKind.i64.wrap 5 = 5 := by decide
theorem w6 : IntKind.i64.wrap 6 = 6 := by decide
theorem w7 : IntKind.i64.wrap 7 = 7 := by decide
theorem w8 : IntKind.i64.wrap 8 = 8 := by decide
attribute [simp] w2 w3 w4 w5 w6 w7 w8
structure LevCalls (call : Caller) : Prop where
  h26 : call 56 [] [] = some (.mapv opKeys opVals, [])
  h27 : ∀ k, call 91 [.int .i64 k] [] = some (.bool (decide (20 ≤ k) && decide (k ≤ 29)), [])
  h28 : ∀ i ∈ [1, 2, 3, 4, 5, 6], ∀ t, call 89 [opsOf i, .str t] [] = some (.bool (hasOp i t), [])
  h29 : ∀ i ∈ [1, 2, 3, 4, 5, 6], call 151 [.int .i64 (i : Nat)] [] = some (opsOf i, [])
theorem levB_run (hc : LevCalls call) (hk : okKid kp) (hn : 10 ≤ n) : AqC pur call n a11 [nd k t a e kp] [] = some (.int .i64 (lev k t), []) := by
  obtain ⟨n, rfl⟩ : ∃ m', n = m' + 10 := ⟨n - 10, by omega⟩
  have g1 := hc.h29 1 (by simp)
  have g2 := hc.h29 2 (by simp)
  have g3 := hc.h29 3 (by simp)
  have g4 := hc.h29 4 (by simp)
  have g5 := hc.h29 5 (by simp)
  have g6 := hc.h29 6 (by simp)
  have f1 := hc.h28 1 (by simp) t
  have f2 := hc.h28 2 (by simp) t
  have f3 := hc.h28 3 (by simp) t
  have f4 := hc.h28 4 (by simp) t
  have f5 := hc.h28 5 (by simp) t
  have f6 := hc.h28 6 (by simp) t
  have e3 : hasOp 3 t = false := rfl;simp only [opsOf, Int.cast_ofNat_Int] at g1 g2 g3 g4 g5 g6 f1 f2 f3 f4 f5 f6;rw [k_fn _ _ rfl];unfold lev;by_cases h1 : k < 20
  · have hx := hc.h27 k;rw [isExpr_out (.inl h1)] at hx;simp [a11, hk, hx, h1]; rfl
  · by_cases h2 : 29 < k
    · have hx := hc.h27 k;rw [isExpr_out (.inr h2)] at hx;simp [a11, hk, hx, h1, h2]; rfl
    · have hx := hc.h27 k;rw [isExpr_in h1 h2] at hx;by_cases h3 : k = 29
      · subst h3;rw [opLev_has];cases b1 : hasOp 1 t with
        | true => simp [a11, hk, hx, AjN, g1, f1, b1]; rfl
        | false =>
          cases b2 : hasOp 2 t with
          | true => simp [a11, hk, hx, AjN, g1, f1, b1, g2, f2, b2]; rfl
          | false =>
            cases b4 : hasOp 4 t with
            | true => simp [a11, hk, hx, AjN, g1, f1, b1, g2, f2, b2, g3, f3, e3, g4, f4, b4]; rfl
            | false =>
              cases b5 : hasOp 5 t with
              | true => simp [a11, hk, hx, AjN, g1, f1, b1, g2, f2, b2, g3, f3, e3, g4, f4, b4, g5, f5, b5]; rfl
              | false =>
                cases b6 : hasOp 6 t with
                | true => simp [a11, hk, hx, AjN, g1, f1, b1, g2, f2, b2, g3, f3, e3, g4, f4, b4, g5, f5, b5, g6, f6, b6]; rfl
                | false => simp [a11, hk, hx, AjN, g1, f1, b1, g2, f2, b2, g3, f3, e3, g4, f4, b4, g5, f5, b5, g6, f6, b6]; rfl
      · have h3' : (k == 29) = false := by simpa using h3
        by_cases h4 : k = 28
        · subst h4;by_cases h5 : t = [110, 111, 116]
          · subst h5; simp [a11, hk, hx]; rfl
          · have h5' : (t == [110, 111, 116]) = false := by simpa using h5
            by_cases h6 : t = [45]
            · subst h6; simp [a11, hk, hx]; rfl
            · have h6' : (t == [45]) = false := by simpa using h6
              simp [a11, hk, hx, h5, h6, h5', h6']; rfl
        · have h4' : (k == 28) = false := by simpa using h4
          simp [a11, hk, hx, h1, h2, h3, h4, h3', h4']; rfl
end Go.Abs.Z

namespace Go.Abs.Z
open Go.Proofs Go.RowKit
variable {call : Caller} {n : Nat} {k a e i : Int} {t : List UInt8} {kp : PV}
theorem opLev_rng (t : List UInt8) : ∀ l, opLev t = some l → 1 ≤ l ∧ l ≤ 6 := by
  intro l;rw [opLev_has]
  repeat' split
  all_goals (intro h; first | (cases h; omega) | cases h)
theorem lev_rng (k : Int) (t : List UInt8) : 0 ≤ lev k t ∧ lev k t ≤ 8 := by
  unfold lev
  repeat' split
  all_goals try omega
  cases h : opLev t with
  | none => simp
  | some l => have := opLev_rng t l h; simp; omega
theorem lev_28 (t : List UInt8) : lev 28 t ≠ 0 := by
  unfold lev
  repeat' split
  all_goals try omega
theorem lev_29 (t : List UInt8) : lev 29 t ≠ 0 := by
  unfold lev;rw [if_neg (by omega), if_neg (by omega), if_pos rfl]
  cases h : opLev t with
  | none => simp
  | some l => have := opLev_rng t l h; simp; omega
theorem lev_other (k : Int) (t : List UInt8) (h : k ≠ 28) (h' : k ≠ 29) : lev k t = 0 ∨ lev k t = 8 := by
  unfold lev
  repeat' split
  all_goals try omega
def needV (L k i : Int) : Int := if L = 8 then 1 else if L = 0 then 1 else if k = 28 then L else if L = 4 then L + 1 else if i = 0 then L else L + 1
theorem w9 {L : Int} (h : 0 ≤ L ∧ L ≤ 8) : IntKind.i64.wrap (L + 1) = L + 1 := by
  simp [IntKind.wrap, IntKind.bits, IntKind.signed]; omega
theorem beqI (x y : Int) : (x == y) = decide (x = y) := rfl
theorem bneI (x y : Int) : (x != y) = !decide (x = y) := rfl
attribute [simp] beqI bneI
theorem needA_run (h10 : call 22 [nd k t a e kp] [] = some (.int .i64 (lev k t), [])) (hk : okKid kp) : AqC pur call n a30 [nd k t a e kp, .int .i64 i] [] = some (.int .i64 (needV (lev k t) k i), []) := by
  rw [k_fn _ _ rfl];have hw := w9 (lev_rng k t)
  revert h10 hw
  generalize lev k t = L;intro h10 hw;unfold needV;by_cases h1 : L = 8
  · subst h1; simp [a30, hk, h10]; rfl
  · by_cases h2 : L = 0
    · subst h2; simp [a30, hk, h10]; rfl
    · by_cases h3 : k = 28
      · subst h3; simp [a30, hk, h10, h1, h2]; rfl
      · by_cases h4 : L = 4
        · subst h4; simp [a30, hk, h10, h3]; rfl
        · by_cases h5 : i = 0
          · simp [a30, hk, h10, h1, h2, h3, h4, h5]; rfl
          · simp [a30, hk, h10, h1, h2, h3, h4, h5, hw]; rfl
theorem needB_run (h11 : call 152 [nd k t a e kp] [] = some (.int .i64 (lev k t), [])) (hk : okKid kp) : AqC pur call n a31 [nd k t a e kp, .int .i64 i] [] = some (.int .i64 (needV (lev k t) k i), []) := by
  rw [k_fn _ _ rfl];have hw := w9 (lev_rng k t);have hr := lev_rng k t;have q1 := lev_28 t;have q2 := lev_29 t;have q3 := lev_other k t;by_cases hk8 : k = 28
  · subst hk8;generalize lev 28 t = L at *;unfold needV;by_cases h1 : L = 8
    · subst h1; simp [a31, hk, h11]; rfl
    · have hlt : L < 8 := by omega
      simp [a31, hk, h11, h1, q1, hlt]; rfl
  · by_cases hk9 : k = 29
    · subst hk9;generalize lev 29 t = L at *;unfold needV;by_cases h1 : L = 8
      · subst h1; simp [a31, hk, h11]; rfl
      · have hlt : L < 8 := by omega
        by_cases h4 : L = 4
        · subst h4; simp [a31, hk, h11]; rfl
        · by_cases h5 : i = 0
          · simp [a31, hk, h11, h1, q2, h4, h5, hlt]; rfl
          · simp [a31, hk, h11, h1, q2, h4, h5, hlt, hw]; rfl
    · have hz : needV (lev k t) k i = 1 := by
        unfold needV;rcases q3 hk8 hk9 with h | h <;> simp [h]
      rw [hz]
      revert h11
      generalize lev k t = L;intro h11;simp [a31, hk, h11, hk8, hk9]; rfl
variable {k' a' e' : Int} {t' : List UInt8} {kp' : PV}
def parV (k : Int) (t : List UInt8) (i k' : Int) (t' : List UInt8) : Bool := decide (20 ≤ k' ∧ k' ≤ 29 ∧ lev k' t' < needV (lev k t) k i)
structure NodeCalls (call : Caller) : Prop where
  h27 : ∀ k, call 91 [.int .i64 k] [] = some (.bool (decide (20 ≤ k) && decide (k ≤ 29)), [])
  h10 : ∀ k t a e kp, okKid kp → call 22 [nd k t a e kp] [] = some (.int .i64 (lev k t), [])
  h11 : ∀ k t a e kp, okKid kp → call 152 [nd k t a e kp] [] = some (.int .i64 (lev k t), [])
  h30 : ∀ k t a e kp i, okKid kp → call 196 [nd k t a e kp, .int .i64 i] [] = some (.int .i64 (needV (lev k t) k i), [])
  h31 : ∀ k t a e kp i, okKid kp → call 153 [nd k t a e kp, .int .i64 i] [] = some (.int .i64 (needV (lev k t) k i), [])
theorem parA_run (hc : NodeCalls call) (hk : okKid kp) (hk' : okKid kp') : AqC pur call n a12 [nd k t a e kp, .int .i64 i, nd k' t' a' e' kp'] [] = some (.bool (parV k t i k' t'), []) := by
  rw [k_fn _ _ rfl];have g1 := hc.h10 k' t' a' e' kp' hk';have g2 := hc.h30 k t a e kp i hk;unfold parV;generalize lev k' t' = L at *;generalize needV (lev k t) k i = M at *;by_cases h1 : k' < 20
  · have : ¬ (20 ≤ k' ∧ k' ≤ 29 ∧ L < M) := by omega
    simp only [this];simp [a12, hk, hk', h1]; rfl
  · by_cases h2 : 29 < k'
    · have : ¬ (20 ≤ k' ∧ k' ≤ 29 ∧ L < M) := by omega
      simp only [this];simp [a12, hk, hk', h1, h2]; rfl
    · have : (20 ≤ k' ∧ k' ≤ 29 ∧ L < M) ↔ L < M := by omega
      simp only [this];simp [a12, hk, hk', h1, h2, g1, g2]; rfl
theorem parB_run (hc : NodeCalls call) (hk : okKid kp) (hk' : okKid kp') : AqC pur call n a13 [nd k t a e kp, .int .i64 i, nd k' t' a' e' kp'] [] = some (.bool (parV k t i k' t'), []) := by
  rw [k_fn _ _ rfl];have g0 := hc.h27 k';have g1 := hc.h11 k' t' a' e' kp' hk';have g2 := hc.h31 k t a e kp i hk;unfold parV;generalize lev k' t' = L at *;generalize needV (lev k t) k i = M at *;by_cases h1 : k' < 20 ∨ 29 < k'
  · have : ¬ (20 ≤ k' ∧ k' ≤ 29 ∧ L < M) := by omega
    simp only [this];rw [isExpr_out h1] at g0;simp [a13, hk, hk', g0]; rfl
  · have : (20 ≤ k' ∧ k' ≤ 29 ∧ L < M) ↔ L < M := by omega
    simp only [this];rw [isExpr_in (by omega) (by omega)] at g0
    simp [a13, hk, hk', g0, g1, g2]; rfl
end Go.Abs.Z

namespace Go.Abs.Z
open Go.Proofs Go.RowKit
variable {call : Caller} {n : Nat}
def Tr.kp : Tr → PV
  | .mk _ _ _ _ n ks => if n then .nils else .slice false 5 (Tr.pvs ks)
def Tr.kind : Tr → Int
  | .mk k _ _ _ _ _ => k
def Tr.text : Tr → List UInt8
  | .mk _ t _ _ _ _ => t
def Tr.st : Tr → Int
  | .mk _ _ a _ _ _ => a
def Tr.en : Tr → Int
  | .mk _ _ _ e _ _ => e
theorem Tr.pv_nd (T : Tr) : T.pv = nd T.kind T.text T.st T.en T.kp := by cases T; rfl
theorem Tr.kp_ok (T : Tr) : okKid T.kp := by
  obtain ⟨k, t, a, e, n, ks⟩ := T;show okKid (if n then .nils else .slice false 5 (Tr.pvs ks))
  cases n
  · exact ⟨rfl, rfl, rfl⟩
  · exact ⟨rfl, rfl, rfl⟩
theorem Tr.AjD (T : Tr) : T.pv.Aq0 = T.pv := by rw [Tr.pv_nd, nd_disown T.kp_ok]
theorem Tr.pv_flat (T : Tr) : T.pv.flat = true := by rw [Tr.pv_nd]; rfl
theorem Tr.pv_free (T : Tr) : T.pv.free = true := by rw [Tr.pv_nd]; rfl
theorem Tr.pv_five (T : Tr) : T.pv.cells.length = 5 := by rw [Tr.pv_nd]; rfl
theorem Tr.pv_ones (T : Tr) : T.pv.ones = true := by
  obtain ⟨k, t, a, e, n, ks⟩ := T;cases n <;> rfl
def body25 : ACode := (.seq (.seq (.region [⟨none, (some 7), (.p .mv), [(.slot 4)], [], []⟩, ⟨none, (some 8), (.p (.fa 4 1 false)), [(.slot 1)], [], []⟩, ⟨none, (some 9), (.r (.ld 1 false)), [(.slot 8)], [], []⟩, ⟨none, (some 10), (.p (.len false)), [(.slot 9)], [], []⟩, ⟨none, (some 11), (.p (.bin .lss 0)), [(.slot 7), (.slot 10)], [], []⟩]) (.cond (.slot 11) .skip (.exit 0))) (.seq (.block 1 (.region [⟨none, (some 14), (.p .mvo), [(.slot 3)], [3], []⟩, ⟨none, (some 15), (.p (.fa 4 1 false)), [(.slot 1)], [], []⟩, ⟨none, (some 16), (.r (.ld 1 false)), [(.slot 15)], [], []⟩, ⟨none, (some 17), (.p .mv), [(.slot 4)], [], []⟩, ⟨none, (some 18), (.p (.idx 5)), [(.slot 16), (.slot 17)], [], []⟩, ⟨none, (some 19), (.r (.ld 5 true)), [(.slot 18)], [], []⟩, ⟨none, (some 20), (.c 15), [(.slot 19)], [], []⟩, ⟨none, (some 21), (.p (.app 5)), [(.slot 14), (.slot 20)], [14], []⟩, ⟨none, (some 3), (.p .mvo), [(.slot 21)], [21], []⟩])) (.region [⟨none, (some 12), (.p .mv), [(.slot 4)], [], []⟩, ⟨none, (some 13), (.p (.bin .add 0)), [(.slot 12), (.val (.int .i64 1))], [], []⟩, ⟨none, (some 4), (.p .mv), [(.slot 13)], [], []⟩])))
def keep25 : List Bool := [false, true, false, true, true, false, false, false, false, false, false, false, false, false, false, false, false, false, false, false, false, false, false]
theorem p_mvol (o : Bool) (s : Nat) (x : List PV) : semP .mvo [.slice o s x] = some [some (.slice o s x), some (.slice false s x)] := rfl
theorem p_lsl {σ : Sto} (o : Bool) (s : Nat) (x : List PV) : semR (.ld 1 false) [.vptr (.slice o s x)] σ = some [some (.slice false s x)] := rfl
theorem p_lsn {σ : Sto} : semR (.ld 1 false) [.vptr .nils] σ = some [some .nils] := rfl
theorem p_app (es xs : List PV) (h1 : xs ≠ []) (h2 : es.length + xs.length ≤ Ax1) (h3 : xs.all PV.ones = true) : semP (.app 5) [.slice true 5 es, .slice false 5 xs] = some [some (.slice true 5 (es ++ xs)), some (.slice false 5 es)] := by
  have : xs.isEmpty = false := by simpa using h1
  simp only [semP, appV, appS, appX, if_true, this, h2, h3];rfl
attribute [simp] p_mvol p_lsl p_lsn Tr.AjD Tr.pv_flat Tr.pv_free
theorem pvs_len (ts : List Tr) : (Tr.pvs ts).length = ts.length := by rw [Tr.AzU]; simp
theorem pvs_app (ts us : List Tr) : Tr.pvs (ts ++ us) = Tr.pvs ts ++ Tr.pvs us := by simp [Tr.AzU]
theorem pvs_ones (ts : List Tr) : (Tr.pvs ts).all PV.ones = true := by
  rw [Tr.AzU]; simp [Tr.pv_ones]
theorem nodes_loop (k : Int) (t : List UInt8) (a e : Int) (ks : List Tr) (N : Nat) (T0 : Tr) (hlen : ks.length < 4611686018427387904) (hrow : 1 + (Tr.pres ks).length ≤ Ax1)
    (hcall : ∀ T ∈ ks, call 15 [T.pv] [] = some (.slice false 5 (Tr.pvs T.pre), [])) :
    ∀ (r j : Nat), j + r = ks.length → ∀ m, r + 1 ≤ m → ∃ ff, iterK keep25 (arunK pur call N body25) m [(1, some (.vptr (nd k t a e (.slice false 5 (Tr.pvs ks))))), (3, some (.slice true 5 (Tr.pvs (T0 :: Tr.pres (ks.take j))))), (4, some (.int .i64 j))] [] =
      some (.exit 0, ff, []) ∧ getK ff 3 = some (.slice true 5 (Tr.pvs (T0 :: Tr.pres ks))) := by
  have hok : okKid (.slice false 5 (Tr.pvs ks)) := ⟨rfl, rfl, rfl⟩;intro r
  induction r with
  | zero =>
    intro j hj m hm;obtain ⟨m, rfl⟩ : ∃ m', m = m' + 1 := ⟨m - 1, by omega⟩
    have hj' : ¬ ((j : Int) < ((Tr.pvs ks).length : Int)) := by rw [pvs_len]; omega
    have ht : ks.take j = ks := List.take_of_length_le (by omega)
    rw [AjN, ht];simp [body25, hj', hok]
  | succ r ih =>
    intro j hj m hm;obtain ⟨m, rfl⟩ : ∃ m', m = m' + 1 := ⟨m - 1, by omega⟩
    have hlt : j < ks.length := by omega
    have hj' : ((j : Int) < ((Tr.pvs ks).length : Int)) := by rw [pvs_len]; omega
    have hw := AzF j (by omega)
    have hg : ks[j]? = some ks[j] := by simp [hlt]
    have hi : semP (.idx 5) [.slice false 5 (Tr.pvs ks), .int .i64 (j : Int)] = some [some (.vptr ks[j].pv)] := p_idx _ _ _ _ _ (by rw [Tr.AzU, List.getElem?_map, hg]; rfl)
    have hld : semR (.ld 5 true) [.vptr ks[j].pv] [] = some [some ks[j].pv] := by rw [Tr.pv_nd]; exact p_ldn ks[j].kp_ok
    have hc := hcall ks[j] (List.getElem_mem hlt);have hnx := pres_take_succ ks j _ hg;have hle := pres_take_le ks (j + 1)
    have happ := p_app (Tr.pvs (T0 :: Tr.pres (ks.take j))) (Tr.pvs ks[j].pre) (by
      intro h;have h0 := congrArg List.length h;rw [pvs_len] at h0;have := pre_pos ks[j];rw [List.length_nil] at h0; omega) (by
      rw [pvs_len, pvs_len];rw [hnx] at hle;simp at hle ⊢
      omega) (pvs_ones _)
    rw [← pvs_app, List.cons_append, ← hnx] at happ;rw [AjN];obtain ⟨ff, h1, h2⟩ := ih (j + 1) (by omega) m (by omega)
    refine ⟨ff, ?_, h2⟩
    rw [← hw] at h1;simp only [body25, keep25] at h1 ⊢;simp [hj', hi, hld, hc, happ, hok] at h1 ⊢;exact h1
theorem nodes_run (T : Tr) (hwf : T.wf) (hn : T.pre.length + 1 ≤ n) (hrow : T.pre.length ≤ Ax1) (hcall : ∀ U ∈ T.kids, call 15 [U.pv] [] = some (.slice false 5 (Tr.pvs U.pre), [])) :
    AqC pur call n a25 [T.pv] [] = some (.slice false 5 (Tr.pvs T.pre), []) := by
  obtain ⟨k, t, a, e, nn, ks⟩ := T;rw [k_fn _ _ rfl];have hpre : Tr.pre (.mk k t a e nn ks) = .mk k t a e nn ks :: Tr.pres ks := by rw [Tr.pre]
  have hb : ∀ x, semP (.bsl 5) [nd k t a e x] = some [some (.slice true 5 [(nd k t a e x).Aq0])] := fun x => rfl
  cases nn with
  | true =>
    obtain rfl := hwf.1 rfl;rw [hpre, Tr.pres];obtain ⟨n, rfl⟩ : ∃ m', n = m' + 1 := ⟨n - 1, by omega⟩
    rfl
  | false =>
    have hpv : (Tr.mk k t a e false ks).pv = nd k t a e (.slice false 5 (Tr.pvs ks)) := rfl;have hok : okKid (.slice false 5 (Tr.pvs ks)) := ⟨rfl, rfl, rfl⟩;rw [hpre] at hn hrow ⊢;simp at hn hrow;have hlp := AjZ ks;obtain ⟨ff, h, h2⟩ := nodes_loop (call := call) k t a e ks n (.mk k t a e false ks) (by simp [Ax1] at hrow; omega) (by omega) hcall ks.length 0 (by omega) n (by omega)
    rw [hpv];simp only [body25, keep25] at h;simp [Tr.pres, Tr.pvs, hpv] at h;simp [a25, hok, hb, h, h2];rfl
end Go.Abs.Z

namespace Go.Abs.Z
open Go.Proofs Go.RowKit
variable {call : Caller} {n : Nat}
def body8 : ACode := (.seq (.seq (.region [⟨none, (some 9), (.p .mv), [(.slot 6)], [], []⟩, ⟨none, (some 10), (.p .mv), [(.slot 5)], [], []⟩, ⟨none, (some 11), (.p (.len false)), [(.slot 10)], [], []⟩, ⟨none, (some 12), (.p (.bin .lss 0)), [(.slot 9), (.slot 11)], [], []⟩]) (.cond (.slot 12) .skip (.exit 0))) (.seq (.block 1 (.seq (.region [⟨none, (some 15), (.p .mv), [(.slot 5)], [], []⟩, ⟨none, (some 16), (.p .mv), [(.slot 6)], [], []⟩, ⟨none, (some 17), (.p (.idx 5)), [(.slot 15), (.slot 16)], [], []⟩, ⟨none, (some 18), (.p (.fa 1 1 false)), [(.slot 17)], [], []⟩, ⟨none, (some 19), (.r (.ld 1 false)), [(.slot 18)], [], []⟩, ⟨none, (some 20), (.p (.len true)), [(.slot 19)], [], []⟩, ⟨none, (some 21), (.p (.bin .gtr 0)), [(.slot 20), (.val (.int .i64 60))], [], []⟩]) (.cond (.slot 21) (.seq (.region [⟨none, (some 4), (.p .mv), [(.val (.bool false))], [], []⟩]) .ret) .skip))) (.region [⟨none, (some 13), (.p .mv), [(.slot 6)], [], []⟩, ⟨none, (some 14), (.p (.bin .add 0)), [(.slot 13), (.val (.int .i64 1))], [], []⟩, ⟨none, (some 6), (.p .mv), [(.slot 14)], [], []⟩])))
def keep8 : List Bool := [false, true, false, false, false, true, true, false, false, false, false, false, false, false, false, false, false, false, false, false, false, false, false, false, false, false]
def smallV (T : Tr) (x : Int) : Bool := T.pre.all (fun u => decide (u.text.length ≤ 60)) && decide ((T.pre.length : Int) ≤ x)
theorem small_loop (ns : List Tr) (x : Int) (N : Nat) (hlen : ns.length < 4611686018427387904) :
    ∀ (r j : Nat), j + r = ns.length → ∀ m, r + 1 ≤ m → ∃ ff, iterK keep8 (arunK pur call N body8) m [(1, some (.int .i64 x)), (5, some (.slice false 5 (Tr.pvs ns))), (6, some (.int .i64 j))] [] =
      some (if (ns.drop j).all (fun u => decide (u.text.length ≤ 60)) then .exit 0 else .ret, ff, []) ∧ (if (ns.drop j).all (fun u => decide (u.text.length ≤ 60)) then getK ff 5 = some (.slice false 5 (Tr.pvs ns)) ∧ getK ff 1 = some (.int .i64 x) else getK ff 4 = some (.bool false)) := by
  intro r
  induction r with
  | zero =>
    intro j hj m hm;obtain ⟨m, rfl⟩ : ∃ m', m = m' + 1 := ⟨m - 1, by omega⟩
    have hj' : ¬ ((j : Int) < ((Tr.pvs ns).length : Int)) := by rw [pvs_len]; omega
    have hd : ns.drop j = [] := List.drop_of_length_le (by omega)
    rw [AjN, hd];simp [body8, hj']
  | succ r ih =>
    intro j hj m hm;obtain ⟨m, rfl⟩ : ∃ m', m = m' + 1 := ⟨m - 1, by omega⟩
    have hlt : j < ns.length := by omega
    have hj' : ((j : Int) < ((Tr.pvs ns).length : Int)) := by rw [pvs_len]; omega
    have hw := AzF j (by omega)
    have hg : ns[j]? = some ns[j] := by simp [hlt]
    have hi : semP (.idx 5) [.slice false 5 (Tr.pvs ns), .int .i64 (j : Int)] = some [some (.vptr ns[j].pv)] := p_idx _ _ _ _ _ (by rw [Tr.AzU, List.getElem?_map, hg]; rfl)
    have hfa : semP (.fa 1 1 false) [.vptr ns[j].pv] = some [some (.vptr (.str ns[j].text))] := by rw [Tr.pv_nd]; exact p_fa1
    have hd : ns.drop j = ns[j] :: ns.drop (j + 1) := List.drop_eq_getElem_cons hlt;rw [hd, AjN, List.all_cons];by_cases h60 : ns[j].text.length ≤ 60
    · have h60' : ¬ ((60 : Int) < (ns[j].text.length : Int)) := by omega
      obtain ⟨ff, h1, h2⟩ := ih (j + 1) (by omega) m (by omega)
      simp only [h60, decide_true, Bool.true_and];refine ⟨ff, ?_, h2⟩
      rw [← h1, ← hw];simp only [body8, keep8];simp [hj', hi, hfa, h60']
    · have h60' : ((60 : Int) < (ns[j].text.length : Int)) := by omega
      simp only [h60, decide_false, Bool.false_and, Bool.false_eq_true, if_false];simp only [body8, keep8];simp [hj', hi, hfa, h60']
theorem small_run (T : Tr) (x : Int) (hn : T.pre.length + 1 ≤ n) (hlen : T.pre.length < 4611686018427387904) (hcall : call 15 [T.pv] [] = some (.slice false 5 (Tr.pvs T.pre), [])) :
    AqC pur call n a8 [T.pv, .int .i64 x] [] = some (.bool (smallV T x), []) := by
  rw [k_fn _ _ rfl];obtain ⟨ff, h, h2⟩ := small_loop (call := call) T.pre x n hlen T.pre.length 0 (by omega) n hn
  have hbx : semP .bx [T.pv] = some [some (.vptr T.pv)] := by rw [Tr.pv_nd]; exact p_bxn T.kp_ok
  have hld : semR (.ld 5 true) [.vptr T.pv] [] = some [some T.pv] := by rw [Tr.pv_nd]; exact p_ldn T.kp_ok
  rw [List.drop_zero] at h h2;unfold smallV;cases hb : T.pre.all (fun u => decide (u.text.length ≤ 60)) with
  | true =>
    simp only [hb, if_true] at h h2;simp only [body8, keep8] at h;simp at h;simp [a8, hbx, hld, hcall, h, h2.1, h2.2, pvs_len];rfl
  | false =>
    simp only [hb, Bool.false_eq_true, if_false] at h h2;simp only [body8, keep8] at h;simp at h;simp [a8, hbx, hld, hcall, h];rw [k_out1 4 _ h2 rfl];rfl
end Go.Abs.Z

namespace Go.Abs.Z
open Go.Proofs Go.RowKit
theorem run27 (m : Nat) (k : Int) : run (m + 1) 91 [.int .i64 k] [] = some (.bool (decide (20 ≤ k) && decide (k ≤ 29)), []) := isExpr_run _ _ _
theorem run26 (m : Nat) : run (m + 1) 56 [] [] = some (.mapv opKeys opVals, []) := levels_run (call := run m) (n := m)
theorem run28 (m : Nat) (hm : 10 ≤ m) (i : Nat) (hi : i ∈ [1, 2, 3, 4, 5, 6]) (t : List UInt8) : run (m + 1) 89 [opsOf i, .str t] [] = some (.bool (hasOp i t), []) := hasOp_run i hi hm
theorem run29 (m : Nat) (i : Nat) (hi : i ∈ [1, 2, 3, 4, 5, 6]) : run (m + 1) 151 [.int .i64 i] [] = some (opsOf i, []) := ops_run i hi
theorem levCalls (m : Nat) (hm : 11 ≤ m) : LevCalls (run m) := by
  obtain ⟨m, rfl⟩ : ∃ m', m = m' + 1 := ⟨m - 1, by omega⟩
  exact ⟨run26 m, run27 m, run28 m (by omega), run29 m⟩
theorem run10 (m : Nat) (hm : 11 ≤ m) (k : Int) (t : List UInt8) (a e : Int) (kp : PV) (h : okKid kp) : run (m + 1) 22 [nd k t a e kp] [] = some (.int .i64 (lev k t), []) := levA_run (levCalls m hm).h26 h
theorem run11 (m : Nat) (hm : 11 ≤ m) (k : Int) (t : List UInt8) (a e : Int) (kp : PV) (h : okKid kp) : run (m + 1) 152 [nd k t a e kp] [] = some (.int .i64 (lev k t), []) := levB_run (levCalls m hm) h (by omega)
theorem run30 (m : Nat) (hm : 12 ≤ m) (k : Int) (t : List UInt8) (a e : Int) (kp : PV) (i : Int) (h : okKid kp) : run (m + 1) 196 [nd k t a e kp, .int .i64 i] [] = some (.int .i64 (needV (lev k t) k i), []) := by
  obtain ⟨m, rfl⟩ : ∃ m', m = m' + 1 := ⟨m - 1, by omega⟩
  exact needA_run (run10 m (by omega) k t a e kp h) h
theorem run31 (m : Nat) (hm : 12 ≤ m) (k : Int) (t : List UInt8) (a e : Int) (kp : PV) (i : Int) (h : okKid kp) : run (m + 1) 153 [nd k t a e kp, .int .i64 i] [] = some (.int .i64 (needV (lev k t) k i), []) := by
  obtain ⟨m, rfl⟩ : ∃ m', m = m' + 1 := ⟨m - 1, by omega⟩
  exact needB_run (run11 m (by omega) k t a e kp h) h
theorem nodeCalls (m : Nat) (hm : 13 ≤ m) : NodeCalls (run m) := by
  obtain ⟨m, rfl⟩ : ∃ m', m = m' + 1 := ⟨m - 1, by omega⟩
  exact ⟨run27 m, run10 m (by omega), run11 m (by omega), run30 m (by omega), run31 m (by omega)⟩
theorem run12 (m : Nat) (hm : 13 ≤ m) (k : Int) (t : List UInt8) (a e : Int) (kp : PV) (i k' : Int) (t' : List UInt8) (a' e' : Int) (kp' : PV) (h : okKid kp) (h' : okKid kp') :
    run (m + 1) 190 [nd k t a e kp, .int .i64 i, nd k' t' a' e' kp'] [] = some (.bool (parV k t i k' t'), []) := parA_run (nodeCalls m hm) h h'
theorem run13 (m : Nat) (hm : 13 ≤ m) (k : Int) (t : List UInt8) (a e : Int) (kp : PV) (i k' : Int) (t' : List UInt8) (a' e' : Int) (kp' : PV) (h : okKid kp) (h' : okKid kp') :
    run (m + 1) 102 [nd k t a e kp, .int .i64 i, nd k' t' a' e' kp'] [] = some (.bool (parV k t i k' t'), []) := parB_run (nodeCalls m hm) h h'
theorem AzX (T U : Tr) (h : U ∈ T.kids) : U.pre.length + 1 ≤ T.pre.length := by
  obtain ⟨k, t, a, e, n, ks⟩ := T;have := AjW ks U h;simp [Tr.pre]; omega
theorem kid_wf (T U : Tr) (hw : T.wf) (h : U ∈ T.kids) : U.wf := by
  obtain ⟨k, t, a, e, n, ks⟩ := T;exact Tr.wfs_mem hw.2 U h
theorem run25 : ∀ (m : Nat) (T : Tr), T.wf → T.pre.length + 1 ≤ m → T.pre.length ≤ Ax1 → run (m + 1) 15 [T.pv] [] = some (.slice false 5 (Tr.pvs T.pre), []) := by
  intro m
  induction m with
  | zero => intro T _ h; omega
  | succ m ih =>
    intro T hw h hr;refine nodes_run T hw h hr fun U hU => ih U (kid_wf T U hw hU) ?_ ?_
    · have := AzX T U hU; omega
    · have := AzX T U hU; omega
theorem run8 (m : Nat) (T : Tr) (x : Int) (hw : T.wf) (h : T.pre.length + 2 ≤ m) (hr : T.pre.length ≤ Ax1) : run (m + 1) 4 [T.pv, .int .i64 x] [] = some (.bool (smallV T x), []) := by
  obtain ⟨m, rfl⟩ : ∃ m', m = m' + 1 := ⟨m - 1, by omega⟩
  refine small_run T x (by omega) (by simp [Ax1] at hr; omega) (run25 m T hw (by omega) hr)
noncomputable def runA (n : Nat) : Caller := fun f args σ => match args, σ with
  | [], [] => if f = 6 then some (.bool true, []) else run n f [] []
  | args, σ => run n f args σ
theorem isTrue_ex : ∀ x : Option (PV × Sto), isTrue x = true → ∃ s, x = some (.bool true, s)
  | some (.bool true, s), _ => ⟨s, rfl⟩
theorem awake_is : ∃ s, run 200 6 [] [] = some (.bool true, s) := isTrue_ex _ awake_true
theorem aft_drop {P : Program} {f : FuncId} {r : PV} {s : Sto} (h : CallOk P f [] [] r s) (hr : ∀ (I : Imm) (bl : List Nat) (w : World) (v : Value), RepT I bl w v r → ∀ (I' : Imm) (bl' : List Nat) (w' : World), RepT I' bl' w' v r) : CallOk P f [] [] r [] := by
  refine ⟨h.1, fun n vs w G K ha hp => (h.2 n vs w G K ha hp).mono ?_⟩
  rintro e w' ⟨v, G', rfl, hv, ha'⟩
  have hbl : G.bl = [] := List.length_eq_zero_iff.1 hp.len;refine ⟨v, ⟨G'.I, G'.ω, []⟩, rfl, hr _ _ _ _ hv _ _ _, ⟨ha'.keep, ha'.same, ha'.sub, ha'.new, ha'.lt, ha'.own, ha'.grow, ?_, ha'.os, ha'.tape, ha'.output, fun id cs h => by simp at h, rfl⟩⟩
  rw [hbl]; exact List.prefix_refl _
theorem runA_sound (n : Nat) : Sound Tryz.prog (runA n) := by
  intro f args σ r σ' hown h;unfold runA at h
  split at h
  · split at h
    · rename_i hf;subst hf;cases h;obtain ⟨s, hs⟩ := awake_is;refine aft_drop (run_sound 200 6 [] [] _ s hown hs) fun I bl w v hv I' bl' w' => ?_
      have := hv.AjC;subst this;exact .one (.inl (.bool true))
    · exact run_sound n f [] [] r σ' hown h
  · exact run_sound n f _ _ r σ' hown h
theorem runA9 (n : Nat) : runA n 6 [] [] = some (.bool true, []) := rfl
end Go.Abs.Z
