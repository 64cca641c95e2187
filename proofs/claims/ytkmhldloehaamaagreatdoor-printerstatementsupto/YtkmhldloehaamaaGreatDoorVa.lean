/- A part of the proof: V1. -/
import Derived.Test.YtkmhldloehaamaaGreatDoorUa

set_option linter.unusedVariables false
set_option linter.unusedSimpArgs false
namespace Go.Abs.Z
open Go.Proofs Go.RowKit
variable {call : Caller} {n : Nat} {k a e k' a' e' : Int} {t t' : List UInt8} {kp kp' : PV}
def AqI (k : Int) : Bool := (k == 9) || (k == 10)
def AjF (k : Int) : Bool := decide (12 ≤ k) && decide (k ≤ 19)
def Ax0 (k : Int) : Bool := decide (20 ≤ k) && decide (k ≤ 29)
def AzC (k : Int) : Bool := (k == 20) || (k == 21) || (k == 22)
def AqZ : List (List UInt8) := [[111, 114], [97, 110, 100], [61, 61], [33, 61], [60], [60, 61], [62], [62, 61], [43], [45], [42], [47], [37]]
theorem isStm3_run (k : Int) : AqC pur call n a79 [.int .i64 k] [] = some (.bool (decide (12 ≤ k) && decide (k ≤ 19)), []) := by
  rw [k_fn _ _ rfl];cases h1 : decide (12 ≤ k) <;> cases h2 : decide (k ≤ 19) <;> simp [a79, h1, h2] <;> rfl
theorem isStmT_run (k : Int) : AqC pur call n a78 [.int .i64 k] [] = some (.bool (decide (12 ≤ k) && decide (k ≤ 19)), []) := by
  rw [k_fn _ _ rfl];cases h1 : decide (12 ≤ k) <;> cases h2 : decide (k ≤ 19) <;> simp [a78, h1, h2] <;> rfl
theorem isExpT_run (k : Int) : AqC pur call n a74 [.int .i64 k] [] = some (.bool (decide (20 ≤ k) && decide (k ≤ 29)), []) := by
  rw [k_fn _ _ rfl];cases h1 : decide (20 ≤ k) <;> cases h2 : decide (k ≤ 29) <;> simp [a74, h1, h2] <;> rfl
theorem isType3_run (k : Int) : AqC pur call n a109 [.int .i64 k] [] = some (.bool (AqI k), []) := by
  rw [k_fn _ _ rfl]; unfold AqI;by_cases h1 : k = 9
  · simp [a109, h1]; rfl
  · simp [a109, h1]; rfl
theorem isTypeT_run (k : Int) : AqC pur call n a126 [.int .i64 k] [] = some (.bool (AqI k), []) := by
  rw [k_fn _ _ rfl]; unfold AqI;by_cases h1 : k = 9
  · simp [a126, h1]; rfl
  · simp [a126, h1]; rfl
theorem isPlace3_run (k : Int) : AqC pur call n a110 [.int .i64 k] [] = some (.bool (AzC k), []) := by
  rw [k_fn _ _ rfl]; unfold AzC;by_cases h1 : k = 20
  · simp [a110, h1]; rfl
  · by_cases h2 : k = 21
    · simp [a110, h2]; rfl
    · simp [a110, h1, h2]; rfl
theorem isPlaceT_run (k : Int) : AqC pur call n a131 [.int .i64 k] [] = some (.bool (AzC k), []) := by
  rw [k_fn _ _ rfl]; unfold AzC;by_cases h1 : k = 20
  · simp [a131, h1]; rfl
  · by_cases h2 : k = 21
    · simp [a131, h2]; rfl
    · simp [a131, h1, h2]; rfl
def Aq5 (k : Int) (t : List UInt8) : Bool :=
  if k = 3 ∨ k = 4 ∨ k = 5 ∨ k = 7 ∨ k = 8 ∨ k = 12 ∨ k = 16 ∨ k = 19 ∨ k = 20 ∨ k = 22 ∨ k = 27 then nameB t
  else if k = 9 then (t == [105, 110, 116]) || (t == [98, 111, 111, 108]) || nameB t
  else if k = 10 ∨ k = 24 then AxU t
  else if k = 25 then (t == [116, 114, 117, 101]) || (t == [102, 97, 108, 115, 101])
  else if k = 28 then (t == [45]) || (t == [110, 111, 116])
  else if k = 29 then AqZ.contains t
  else t == []
theorem kinds30 (h0 : 0 ≤ k) (h1 : k ≤ 29) : k = 0 ∨ k = 1 ∨ k = 2 ∨ k = 3 ∨ k = 4 ∨ k = 5 ∨ k = 6 ∨ k = 7 ∨ k = 8 ∨ k = 9 ∨ k = 10 ∨ k = 11 ∨ k = 12 ∨ k = 13 ∨ k = 14 ∨ k = 15 ∨ k = 16 ∨ k = 17 ∨ k = 18 ∨ k = 19 ∨ k = 20 ∨ k = 21 ∨ k = 22 ∨ k = 23 ∨ k = 24 ∨ k = 25 ∨ k = 26 ∨ k = 27 ∨ k = 28 ∨ k = 29 := by omega
structure AqE (call : Caller) : Prop where
  h107 : ∀ s : List UInt8, call 87 [.str s] [] = some (.bool (nameB s), [])
  h108 : ∀ s : List UInt8, call 88 [.str s] [] = some (.bool (AxU s), [])
  h28 : ∀ (ls : List (List UInt8)) (t : List UInt8), ls.length < 100 → call 89 [.slice false 1 (ls.map .str), .str t] [] = some (.bool (ls.contains t), [])
  h27 : ∀ k, call 91 [.int .i64 k] [] = some (.bool (Ax0 k), [])
  h79 : ∀ k, call 16 [.int .i64 k] [] = some (.bool (AjF k), [])
  h109 : ∀ k, call 90 [.int .i64 k] [] = some (.bool (AqI k), [])
  h110 : ∀ k, call 92 [.int .i64 k] [] = some (.bool (AzC k), [])
theorem text3_run (hc : AqE call) (hk : okKid kp) (h0 : 0 ≤ k) (h29 : k ≤ 29) : AqC pur call n a60 [nd k t a e kp] [] = some (.bool (Aq5 k t), []) := by
  rw [k_fn _ _ rfl];have q1 := hc.h107 t;have q2 := hc.h108 t;have q3 := hc.h28 AqZ t (by decide)
  generalize hb : AqZ.contains t = b at q3;simp only [AqZ, List.map_cons, List.map_nil] at q3;rcases kinds30 h0 h29 with rfl | rfl | rfl | rfl | rfl | rfl | rfl | rfl | rfl | rfl | rfl | rfl | rfl | rfl | rfl | rfl | rfl | rfl | rfl | rfl | rfl | rfl | rfl | rfl | rfl | rfl | rfl | rfl | rfl | rfl
  · simp [a60, hk, Aq5]; rfl
  · simp [a60, hk, Aq5]; rfl
  · simp [a60, hk, Aq5]; rfl
  · simp [a60, hk, Aq5, q1]; rfl
  · simp [a60, hk, Aq5, q1]; rfl
  · simp [a60, hk, Aq5, q1]; rfl
  · simp [a60, hk, Aq5]; rfl
  · simp [a60, hk, Aq5, q1]; rfl
  · simp [a60, hk, Aq5, q1]; rfl
  · cases b1 : (t == [105, 110, 116]) <;> cases b2 : (t == [98, 111, 111, 108]) <;> simp [a60, hk, Aq5, q1, b1, b2] <;> rfl
  · simp [a60, hk, Aq5, q2]; rfl
  · simp [a60, hk, Aq5]; rfl
  · simp [a60, hk, Aq5, q1]; rfl
  · simp [a60, hk, Aq5]; rfl
  · simp [a60, hk, Aq5]; rfl
  · simp [a60, hk, Aq5]; rfl
  · simp [a60, hk, Aq5, q1]; rfl
  · simp [a60, hk, Aq5]; rfl
  · simp [a60, hk, Aq5]; rfl
  · simp [a60, hk, Aq5, q1]; rfl
  · simp [a60, hk, Aq5, q1]; rfl
  · simp [a60, hk, Aq5]; rfl
  · simp [a60, hk, Aq5, q1]; rfl
  · simp [a60, hk, Aq5]; rfl
  · simp [a60, hk, Aq5, q2]; rfl
  · cases b1 : (t == [116, 114, 117, 101]) <;> simp [a60, hk, Aq5, b1] <;> rfl
  · simp [a60, hk, Aq5]; rfl
  · simp [a60, hk, Aq5, q1]; rfl
  · cases b1 : (t == [45]) <;> simp [a60, hk, Aq5, b1] <;> rfl
  · simp only [Aq5, hb]; simp [a60, hk, q3]; rfl
def leastOf (k : Int) : Nat := if k = 3 ∨ k = 26 then 1 else if k = 5 ∨ k = 14 ∨ k = 16 then 3 else if k = 12 ∨ k = 13 ∨ k = 15 ∨ k = 21 ∨ k = 29 then 2 else if k = 4 ∨ k = 7 ∨ k = 8 ∨ k = 17 ∨ k = 18 ∨ k = 22 ∨ k = 23 ∨ k = 28 then 1 else 0
def AqD (k : Int) : Nat := if k = 2 ∨ k = 6 ∨ k = 11 ∨ k = 19 ∨ k = 27 ∨ k = 3 ∨ k = 26 then 4096 else leastOf k
theorem most3_run (h0 : 0 ≤ k) (h29 : k ≤ 29) : AqC pur call n a61 [.int .i64 k] [] = some (.tuple [.int .i64 (leastOf k : Nat), .int .i64 (AqD k : Nat)], []) := by
  rcases kinds30 h0 h29 with rfl | rfl | rfl | rfl | rfl | rfl | rfl | rfl | rfl | rfl | rfl | rfl | rfl | rfl | rfl | rfl | rfl | rfl | rfl | rfl | rfl | rfl | rfl | rfl | rfl | rfl | rfl | rfl | rfl | rfl <;> kernel_rfl
def kidOk (k : Int) (i : Nat) (k' : Int) (t' : List UInt8) : Bool :=
  if k = 2 then k' == 3 || k' == 5
  else if k = 3 then k' == 4
  else if k = 4 then k' == 9 && (t' == [105, 110, 116] || t' == [98, 111, 111, 108])
  else if k = 5 then (if i = 0 then k' == 6 else if i = 1 then AqI k' || k' == 0 else k' == 11)
  else if k = 6 then k' == 7 || k' == 8
  else if k = 7 ∨ k = 8 then AqI k' || k' == 0
  else if k = 11 then AjF k'
  else if k = 12 then (if i = 0 then AqI k' || k' == 0 else Ax0 k')
  else if k = 13 then (if i = 0 then AzC k' else Ax0 k')
  else if k = 14 then (if i = 0 then Ax0 k' else if i = 1 then k' == 11 else k' == 11 || k' == 14 || k' == 0)
  else if k = 15 then (if i = 0 then Ax0 k' else k' == 11)
  else if k = 16 then (if i < 2 then Ax0 k' else k' == 11)
  else if k = 17 then Ax0 k' || k' == 0
  else if k = 21 then (if i = 0 then k' == 20 else Ax0 k')
  else if k = 22 ∨ k = 23 then k' == 20
  else Ax0 k'
theorem kid3_0 (hc : AqE call) (hk : okKid kp') (i : Nat) (hi : i < AqD 0) : AqC pur call n a62 [.int .i64 0, .int .i64 i, nd k' t' a' e' kp'] [] = some (.bool (kidOk 0 i k' t'), []) := by
  have q1 := hc.h27 k';have q2 := hc.h79 k';have q3 := hc.h109 k';have q4 := hc.h110 k';rw [k_fn _ _ rfl]
  · simp [a62, kidOk, hk, q1, q2, q3, q4] <;> rfl
theorem kid3_1 (hc : AqE call) (hk : okKid kp') (i : Nat) (hi : i < AqD 1) : AqC pur call n a62 [.int .i64 1, .int .i64 i, nd k' t' a' e' kp'] [] = some (.bool (kidOk 1 i k' t'), []) := by
  have q1 := hc.h27 k';have q2 := hc.h79 k';have q3 := hc.h109 k';have q4 := hc.h110 k';rw [k_fn _ _ rfl]
  · simp [a62, kidOk, hk, q1, q2, q3, q4] <;> rfl
theorem kid3_2 (hc : AqE call) (hk : okKid kp') (i : Nat) (hi : i < AqD 2) : AqC pur call n a62 [.int .i64 2, .int .i64 i, nd k' t' a' e' kp'] [] = some (.bool (kidOk 2 i k' t'), []) := by
  have q1 := hc.h27 k';have q2 := hc.h79 k';have q3 := hc.h109 k';have q4 := hc.h110 k';rw [k_fn _ _ rfl]
  · by_cases h0 : k' = 3 <;> simp [a62, kidOk, hk, q1, q2, q3, q4, h0] <;> rfl
theorem kid3_3 (hc : AqE call) (hk : okKid kp') (i : Nat) (hi : i < AqD 3) : AqC pur call n a62 [.int .i64 3, .int .i64 i, nd k' t' a' e' kp'] [] = some (.bool (kidOk 3 i k' t'), []) := by
  have q1 := hc.h27 k';have q2 := hc.h79 k';have q3 := hc.h109 k';have q4 := hc.h110 k';rw [k_fn _ _ rfl]
  · simp [a62, kidOk, hk, q1, q2, q3, q4] <;> rfl
theorem kid3_4 (hc : AqE call) (hk : okKid kp') (i : Nat) (hi : i < AqD 4) : AqC pur call n a62 [.int .i64 4, .int .i64 i, nd k' t' a' e' kp'] [] = some (.bool (kidOk 4 i k' t'), []) := by
  have q1 := hc.h27 k';have q2 := hc.h79 k';have q3 := hc.h109 k';have q4 := hc.h110 k';rw [k_fn _ _ rfl]
  · by_cases h0 : k' = 9 <;> cases h1 : (t' == [105, 110, 116]) <;> simp [a62, kidOk, hk, q1, q2, q3, q4, h0, h1] <;> rfl
theorem kid3_5 (hc : AqE call) (hk : okKid kp') (i : Nat) (hi : i < AqD 5) : AqC pur call n a62 [.int .i64 5, .int .i64 i, nd k' t' a' e' kp'] [] = some (.bool (kidOk 5 i k' t'), []) := by
  have q1 := hc.h27 k';have q2 := hc.h79 k';have q3 := hc.h109 k';have q4 := hc.h110 k';rw [k_fn _ _ rfl]
  · have hi3 : i = 0 ∨ i = 1 ∨ i = 2 := by simp [AqD, leastOf] at hi; omega
    rcases hi3 with rfl | rfl | rfl
    · by_cases h0 : k' = 6 <;> simp [a62, kidOk, hk, q1, q2, q3, q4, h0] <;> rfl
    · cases h0 : AqI k'
      · by_cases h1 : k' = 0
        · subst h1; simp [a62, kidOk, hk, q1, q2, q3, q4, h0]; rfl
        · simp [a62, kidOk, hk, q1, q2, q3, q4, h0, h1]; rfl
      · simp [a62, kidOk, hk, q1, q2, q3, q4, h0]; rfl
    · by_cases h0 : k' = 11 <;> simp [a62, kidOk, hk, q1, q2, q3, q4, h0] <;> rfl
theorem kid3_6 (hc : AqE call) (hk : okKid kp') (i : Nat) (hi : i < AqD 6) : AqC pur call n a62 [.int .i64 6, .int .i64 i, nd k' t' a' e' kp'] [] = some (.bool (kidOk 6 i k' t'), []) := by
  have q1 := hc.h27 k';have q2 := hc.h79 k';have q3 := hc.h109 k';have q4 := hc.h110 k';rw [k_fn _ _ rfl]
  · by_cases h0 : k' = 7 <;> simp [a62, kidOk, hk, q1, q2, q3, q4, h0] <;> rfl
theorem kid3_7 (hc : AqE call) (hk : okKid kp') (i : Nat) (hi : i < AqD 7) : AqC pur call n a62 [.int .i64 7, .int .i64 i, nd k' t' a' e' kp'] [] = some (.bool (kidOk 7 i k' t'), []) := by
  have q1 := hc.h27 k';have q2 := hc.h79 k';have q3 := hc.h109 k';have q4 := hc.h110 k';rw [k_fn _ _ rfl]
  · cases h0 : AqI k' <;> simp [a62, kidOk, hk, q1, q2, q3, q4, h0] <;> rfl
theorem kid3_8 (hc : AqE call) (hk : okKid kp') (i : Nat) (hi : i < AqD 8) : AqC pur call n a62 [.int .i64 8, .int .i64 i, nd k' t' a' e' kp'] [] = some (.bool (kidOk 8 i k' t'), []) := by
  have q1 := hc.h27 k';have q2 := hc.h79 k';have q3 := hc.h109 k';have q4 := hc.h110 k';rw [k_fn _ _ rfl]
  · cases h0 : AqI k' <;> simp [a62, kidOk, hk, q1, q2, q3, q4, h0] <;> rfl
theorem kid3_9 (hc : AqE call) (hk : okKid kp') (i : Nat) (hi : i < AqD 9) : AqC pur call n a62 [.int .i64 9, .int .i64 i, nd k' t' a' e' kp'] [] = some (.bool (kidOk 9 i k' t'), []) := by
  have q1 := hc.h27 k';have q2 := hc.h79 k';have q3 := hc.h109 k';have q4 := hc.h110 k';rw [k_fn _ _ rfl]
  · simp [a62, kidOk, hk, q1, q2, q3, q4] <;> rfl
theorem kid3_10 (hc : AqE call) (hk : okKid kp') (i : Nat) (hi : i < AqD 10) : AqC pur call n a62 [.int .i64 10, .int .i64 i, nd k' t' a' e' kp'] [] = some (.bool (kidOk 10 i k' t'), []) := by
  have q1 := hc.h27 k';have q2 := hc.h79 k';have q3 := hc.h109 k';have q4 := hc.h110 k';rw [k_fn _ _ rfl]
  · simp [a62, kidOk, hk, q1, q2, q3, q4] <;> rfl
theorem kid3_11 (hc : AqE call) (hk : okKid kp') (i : Nat) (hi : i < AqD 11) : AqC pur call n a62 [.int .i64 11, .int .i64 i, nd k' t' a' e' kp'] [] = some (.bool (kidOk 11 i k' t'), []) := by
  have q1 := hc.h27 k';have q2 := hc.h79 k';have q3 := hc.h109 k';have q4 := hc.h110 k';rw [k_fn _ _ rfl]
  · simp [a62, kidOk, hk, q1, q2, q3, q4] <;> rfl
theorem kid3_12 (hc : AqE call) (hk : okKid kp') (i : Nat) (hi : i < AqD 12) : AqC pur call n a62 [.int .i64 12, .int .i64 i, nd k' t' a' e' kp'] [] = some (.bool (kidOk 12 i k' t'), []) := by
  have q1 := hc.h27 k';have q2 := hc.h79 k';have q3 := hc.h109 k';have q4 := hc.h110 k';rw [k_fn _ _ rfl]
  · have hi3 : i = 0 ∨ i = 1 := by simp [AqD, leastOf] at hi; omega
    rcases hi3 with rfl | rfl
    · cases h0 : AqI k'
      · by_cases h1 : k' = 0
        · subst h1; simp [a62, kidOk, hk, q1, q2, q3, q4, h0]; rfl
        · simp [a62, kidOk, hk, q1, q2, q3, q4, h0, h1]; rfl
      · simp [a62, kidOk, hk, q1, q2, q3, q4, h0]; rfl
    · cases h0 : Ax0 k' <;> simp [a62, kidOk, hk, q1, q2, q3, q4, h0] <;> rfl
theorem kid3_13 (hc : AqE call) (hk : okKid kp') (i : Nat) (hi : i < AqD 13) : AqC pur call n a62 [.int .i64 13, .int .i64 i, nd k' t' a' e' kp'] [] = some (.bool (kidOk 13 i k' t'), []) := by
  have q1 := hc.h27 k';have q2 := hc.h79 k';have q3 := hc.h109 k';have q4 := hc.h110 k';rw [k_fn _ _ rfl]
  · have hi3 : i = 0 ∨ i = 1 := by simp [AqD, leastOf] at hi; omega
    rcases hi3 with rfl | rfl
    · cases h0 : AzC k' <;> simp [a62, kidOk, hk, q1, q2, q3, q4, h0] <;> rfl
    · cases h0 : Ax0 k' <;> simp [a62, kidOk, hk, q1, q2, q3, q4, h0] <;> rfl
theorem kid3_14 (hc : AqE call) (hk : okKid kp') (i : Nat) (hi : i < AqD 14) : AqC pur call n a62 [.int .i64 14, .int .i64 i, nd k' t' a' e' kp'] [] = some (.bool (kidOk 14 i k' t'), []) := by
  have q1 := hc.h27 k';have q2 := hc.h79 k';have q3 := hc.h109 k';have q4 := hc.h110 k';rw [k_fn _ _ rfl]
  · have hi3 : i = 0 ∨ i = 1 ∨ i = 2 := by simp [AqD, leastOf] at hi; omega
    rcases hi3 with rfl | rfl | rfl
    · cases h0 : Ax0 k' <;> simp [a62, kidOk, hk, q1, q2, q3, q4, h0] <;> rfl
    · by_cases h0 : k' = 11 <;> simp [a62, kidOk, hk, q1, q2, q3, q4, h0] <;> rfl
    · by_cases h0 : k' = 11 <;> by_cases h1 : k' = 14 <;> simp [a62, kidOk, hk, q1, q2, q3, q4, h0, h1] <;> rfl
theorem kid3_15 (hc : AqE call) (hk : okKid kp') (i : Nat) (hi : i < AqD 15) : AqC pur call n a62 [.int .i64 15, .int .i64 i, nd k' t' a' e' kp'] [] = some (.bool (kidOk 15 i k' t'), []) := by
  have q1 := hc.h27 k';have q2 := hc.h79 k';have q3 := hc.h109 k';have q4 := hc.h110 k';rw [k_fn _ _ rfl]
  · have hi3 : i = 0 ∨ i = 1 := by simp [AqD, leastOf] at hi; omega
    rcases hi3 with rfl | rfl
    · cases h0 : Ax0 k' <;> simp [a62, kidOk, hk, q1, q2, q3, q4, h0] <;> rfl
    · simp [a62, kidOk, hk, q1, q2, q3, q4] <;> rfl
theorem kid3_16 (hc : AqE call) (hk : okKid kp') (i : Nat) (hi : i < AqD 16) : AqC pur call n a62 [.int .i64 16, .int .i64 i, nd k' t' a' e' kp'] [] = some (.bool (kidOk 16 i k' t'), []) := by
  have q1 := hc.h27 k';have q2 := hc.h79 k';have q3 := hc.h109 k';have q4 := hc.h110 k';rw [k_fn _ _ rfl]
  · have hi3 : i = 0 ∨ i = 1 ∨ i = 2 := by simp [AqD, leastOf] at hi; omega
    rcases hi3 with rfl | rfl | rfl
    · cases h0 : Ax0 k' <;> simp [a62, kidOk, hk, q1, q2, q3, q4, h0] <;> rfl
    · cases h0 : Ax0 k' <;> simp [a62, kidOk, hk, q1, q2, q3, q4, h0] <;> rfl
    · simp [a62, kidOk, hk, q1, q2, q3, q4] <;> rfl
theorem kid3_17 (hc : AqE call) (hk : okKid kp') (i : Nat) (hi : i < AqD 17) : AqC pur call n a62 [.int .i64 17, .int .i64 i, nd k' t' a' e' kp'] [] = some (.bool (kidOk 17 i k' t'), []) := by
  have q1 := hc.h27 k';have q2 := hc.h79 k';have q3 := hc.h109 k';have q4 := hc.h110 k';rw [k_fn _ _ rfl]
  · cases h0 : Ax0 k' <;> simp [a62, kidOk, hk, q1, q2, q3, q4, h0] <;> rfl
theorem kid3_18 (hc : AqE call) (hk : okKid kp') (i : Nat) (hi : i < AqD 18) : AqC pur call n a62 [.int .i64 18, .int .i64 i, nd k' t' a' e' kp'] [] = some (.bool (kidOk 18 i k' t'), []) := by
  have q1 := hc.h27 k';have q2 := hc.h79 k';have q3 := hc.h109 k';have q4 := hc.h110 k';rw [k_fn _ _ rfl]
  · simp [a62, kidOk, hk, q1, q2, q3, q4] <;> rfl
theorem kid3_19 (hc : AqE call) (hk : okKid kp') (i : Nat) (hi : i < AqD 19) : AqC pur call n a62 [.int .i64 19, .int .i64 i, nd k' t' a' e' kp'] [] = some (.bool (kidOk 19 i k' t'), []) := by
  have q1 := hc.h27 k';have q2 := hc.h79 k';have q3 := hc.h109 k';have q4 := hc.h110 k';rw [k_fn _ _ rfl]
  · simp [a62, kidOk, hk, q1, q2, q3, q4] <;> rfl
theorem kid3_20 (hc : AqE call) (hk : okKid kp') (i : Nat) (hi : i < AqD 20) : AqC pur call n a62 [.int .i64 20, .int .i64 i, nd k' t' a' e' kp'] [] = some (.bool (kidOk 20 i k' t'), []) := by
  have q1 := hc.h27 k';have q2 := hc.h79 k';have q3 := hc.h109 k';have q4 := hc.h110 k';rw [k_fn _ _ rfl]
  · simp [a62, kidOk, hk, q1, q2, q3, q4] <;> rfl
theorem kid3_21 (hc : AqE call) (hk : okKid kp') (i : Nat) (hi : i < AqD 21) : AqC pur call n a62 [.int .i64 21, .int .i64 i, nd k' t' a' e' kp'] [] = some (.bool (kidOk 21 i k' t'), []) := by
  have q1 := hc.h27 k';have q2 := hc.h79 k';have q3 := hc.h109 k';have q4 := hc.h110 k';rw [k_fn _ _ rfl]
  · have hi3 : i = 0 ∨ i = 1 := by simp [AqD, leastOf] at hi; omega
    rcases hi3 with rfl | rfl
    · by_cases h0 : k' = 20 <;> simp [a62, kidOk, hk, q1, q2, q3, q4, h0] <;> rfl
    · cases h0 : Ax0 k' <;> simp [a62, kidOk, hk, q1, q2, q3, q4, h0] <;> rfl
theorem kid3_22 (hc : AqE call) (hk : okKid kp') (i : Nat) (hi : i < AqD 22) : AqC pur call n a62 [.int .i64 22, .int .i64 i, nd k' t' a' e' kp'] [] = some (.bool (kidOk 22 i k' t'), []) := by
  have q1 := hc.h27 k';have q2 := hc.h79 k';have q3 := hc.h109 k';have q4 := hc.h110 k';rw [k_fn _ _ rfl]
  · simp [a62, kidOk, hk, q1, q2, q3, q4] <;> rfl
theorem kid3_23 (hc : AqE call) (hk : okKid kp') (i : Nat) (hi : i < AqD 23) : AqC pur call n a62 [.int .i64 23, .int .i64 i, nd k' t' a' e' kp'] [] = some (.bool (kidOk 23 i k' t'), []) := by
  have q1 := hc.h27 k';have q2 := hc.h79 k';have q3 := hc.h109 k';have q4 := hc.h110 k';rw [k_fn _ _ rfl]
  · simp [a62, kidOk, hk, q1, q2, q3, q4] <;> rfl
theorem kid3_24 (hc : AqE call) (hk : okKid kp') (i : Nat) (hi : i < AqD 24) : AqC pur call n a62 [.int .i64 24, .int .i64 i, nd k' t' a' e' kp'] [] = some (.bool (kidOk 24 i k' t'), []) := by
  have q1 := hc.h27 k';have q2 := hc.h79 k';have q3 := hc.h109 k';have q4 := hc.h110 k';rw [k_fn _ _ rfl]
  · simp [a62, kidOk, hk, q1, q2, q3, q4] <;> rfl
theorem kid3_25 (hc : AqE call) (hk : okKid kp') (i : Nat) (hi : i < AqD 25) : AqC pur call n a62 [.int .i64 25, .int .i64 i, nd k' t' a' e' kp'] [] = some (.bool (kidOk 25 i k' t'), []) := by
  have q1 := hc.h27 k';have q2 := hc.h79 k';have q3 := hc.h109 k';have q4 := hc.h110 k';rw [k_fn _ _ rfl]
  · simp [a62, kidOk, hk, q1, q2, q3, q4] <;> rfl
theorem kid3_26 (hc : AqE call) (hk : okKid kp') (i : Nat) (hi : i < AqD 26) : AqC pur call n a62 [.int .i64 26, .int .i64 i, nd k' t' a' e' kp'] [] = some (.bool (kidOk 26 i k' t'), []) := by
  have q1 := hc.h27 k';have q2 := hc.h79 k';have q3 := hc.h109 k';have q4 := hc.h110 k';rw [k_fn _ _ rfl]
  · simp [a62, kidOk, hk, q1, q2, q3, q4] <;> rfl
theorem kid3_27 (hc : AqE call) (hk : okKid kp') (i : Nat) (hi : i < AqD 27) : AqC pur call n a62 [.int .i64 27, .int .i64 i, nd k' t' a' e' kp'] [] = some (.bool (kidOk 27 i k' t'), []) := by
  have q1 := hc.h27 k';have q2 := hc.h79 k';have q3 := hc.h109 k';have q4 := hc.h110 k';rw [k_fn _ _ rfl]
  · simp [a62, kidOk, hk, q1, q2, q3, q4] <;> rfl
theorem kid3_28 (hc : AqE call) (hk : okKid kp') (i : Nat) (hi : i < AqD 28) : AqC pur call n a62 [.int .i64 28, .int .i64 i, nd k' t' a' e' kp'] [] = some (.bool (kidOk 28 i k' t'), []) := by
  have q1 := hc.h27 k';have q2 := hc.h79 k';have q3 := hc.h109 k';have q4 := hc.h110 k';rw [k_fn _ _ rfl]
  · simp [a62, kidOk, hk, q1, q2, q3, q4] <;> rfl
theorem kid3_29 (hc : AqE call) (hk : okKid kp') (i : Nat) (hi : i < AqD 29) : AqC pur call n a62 [.int .i64 29, .int .i64 i, nd k' t' a' e' kp'] [] = some (.bool (kidOk 29 i k' t'), []) := by
  have q1 := hc.h27 k';have q2 := hc.h79 k';have q3 := hc.h109 k';have q4 := hc.h110 k';rw [k_fn _ _ rfl]
  · simp [a62, kidOk, hk, q1, q2, q3, q4] <;> rfl
theorem kid3_run (hc : AqE call) (hk : okKid kp') (h0 : 0 ≤ k) (h29 : k ≤ 29) (i : Nat) (hi : i < AqD k) : AqC pur call n a62 [.int .i64 k, .int .i64 i, nd k' t' a' e' kp'] [] = some (.bool (kidOk k i k' t'), []) := by
  rcases kinds30 h0 h29 with rfl | rfl | rfl | rfl | rfl | rfl | rfl | rfl | rfl | rfl | rfl | rfl | rfl | rfl | rfl | rfl | rfl | rfl | rfl | rfl | rfl | rfl | rfl | rfl | rfl | rfl | rfl | rfl | rfl | rfl
  · exact kid3_0 hc hk i hi
  · exact kid3_1 hc hk i hi
  · exact kid3_2 hc hk i hi
  · exact kid3_3 hc hk i hi
  · exact kid3_4 hc hk i hi
  · exact kid3_5 hc hk i hi
  · exact kid3_6 hc hk i hi
  · exact kid3_7 hc hk i hi
  · exact kid3_8 hc hk i hi
  · exact kid3_9 hc hk i hi
  · exact kid3_10 hc hk i hi
  · exact kid3_11 hc hk i hi
  · exact kid3_12 hc hk i hi
  · exact kid3_13 hc hk i hi
  · exact kid3_14 hc hk i hi
  · exact kid3_15 hc hk i hi
  · exact kid3_16 hc hk i hi
  · exact kid3_17 hc hk i hi
  · exact kid3_18 hc hk i hi
  · exact kid3_19 hc hk i hi
  · exact kid3_20 hc hk i hi
  · exact kid3_21 hc hk i hi
  · exact kid3_22 hc hk i hi
  · exact kid3_23 hc hk i hi
  · exact kid3_24 hc hk i hi
  · exact kid3_25 hc hk i hi
  · exact kid3_26 hc hk i hi
  · exact kid3_27 hc hk i hi
  · exact kid3_28 hc hk i hi
  · exact kid3_29 hc hk i hi
end Go.Abs.Z
