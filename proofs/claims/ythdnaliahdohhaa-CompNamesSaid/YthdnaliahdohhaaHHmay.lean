/- Terms: may a term be, its Args aside (term.may). -/
import Derived.Test.YthdnaliahdohhaaHHown
namespace Go.Proofs.Ythdnaliahdohhaa.H
open Go.RowKit Go.Proofs.YthdnaliahdohhaaW.PrintWords Go.Proofs.YthdnaliahdohhaaW.PrintLast Go.Proofs.YthdnaliahdohhaaW.PrintMore Go.Proofs.Ythdnaliahdohhaa.Map
attribute [local go_sem] max2_int min2_int max_two min_two max_three min_three max_four min_four
set_option linter.unusedVariables false
set_option linter.unusedSimpArgs false
def mayK (k n : Int) (s : ByteArray) (m : Nat) : Bool :=
  if k = 1 then decide (0 ≤ n) && decide (s.size = 0) && decide (m = 0)
  else if k = 2 then decide (s.size = 0) && decide (m = 0)
  else if k = 3 then decide (n = 0) && decide (s.size ≤ 1000) && decide (m = 0)
  else if k = 4 then decide (n = 0) && decide (s.size ≤ 1000) && decide (0 < m) && decide (m ≤ 255)
  else false
theorem size_nil {s : ByteArray} (h : s.size = 0) : s = ⟨#[]⟩ := by
  obtain ⟨a⟩ := s
  have : a = #[] := Array.size_eq_zero_iff.1 h
  rw [this]
theorem toList_size (s : ByteArray) : s.toList = [] ↔ s.size = 0 := by
  constructor
  · intro h
    rw [ByteArray.toList_eq] at h
    have := congrArg List.length h
    simpa using this
  · intro h; rw [size_nil h]; kernel_rfl
theorem empty_no {s : ByteArray} (h : ¬ s.size = 0) : s.toList.isEmpty = false ∧ (s.toList == []) = false ∧ (s == ⟨#[]⟩) = false := by
  have h1 : ¬ s.toList = [] := fun e => h ((toList_size s).1 e)
  refine ⟨by simpa using h1, by simpa using h1, ?_⟩
  rw [beq_bytes]
  exact decide_eq_false (fun e => h (by rw [e]; rfl))
set_option maxHeartbeats 8000000 in
set_option maxRecDepth 100000 in
theorem may_0 (n : Int) (s : ByteArray) (A : Option Addr) (m c : Nat) (w : World) (nneg : n < 0) :
    Calls Try.prog 99 #[.agg #[.int .i64 1, .int .i64 n, .string s, .slice A m c]] w fun e w' => e = .returned (.bool (mayK 1 n s m)) ∧ Below w.heap.size w w' := by
  have HV : Aside0 (mayK 1 n s m = false) := ⟨by unfold mayK; first | (simp [*]; done) | (simp [*]; omega)⟩
  have f1 : decide (n < 0) = true := decide_eq_true nneg
  clear nneg
  rw [HV.out]
  clear HV
  go_enter Try.func99, Try.ntmps99
  go_wp2_with fail
  go_ret
  exact ⟨rfl, below_alloc (Below.refl _ _) _⟩
set_option maxHeartbeats 8000000 in
set_option maxRecDepth 100000 in
theorem may_1 (n : Int) (s : ByteArray) (A : Option Addr) (m c : Nat) (w : World) (nge : 0 ≤ n) (sne : ¬ s.size = 0) :
    Calls Try.prog 99 #[.agg #[.int .i64 1, .int .i64 n, .string s, .slice A m c]] w fun e w' => e = .returned (.bool (mayK 1 n s m)) ∧ Below w.heap.size w w' := by
  have HV : Aside0 (mayK 1 n s m = false) := ⟨by unfold mayK; first | (simp [*]; done) | (simp [*]; omega)⟩
  have f1 : decide (n < 0) = false := decide_eq_false (by omega)
  obtain ⟨s1, s2, s3⟩ := empty_no sne
  clear nge sne
  rw [HV.out]
  clear HV
  go_enter Try.func99, Try.ntmps99
  go_wp2_with fail
  go_ret
  exact ⟨rfl, below_alloc (Below.refl _ _) _⟩
set_option maxHeartbeats 8000000 in
set_option maxRecDepth 100000 in
theorem may_2 (n : Int) (s : ByteArray) (A : Option Addr) (m c : Nat) (w : World) (nge : 0 ≤ n) (se : s.size = 0) (l0 : m = 0) :
    Calls Try.prog 99 #[.agg #[.int .i64 1, .int .i64 n, .string s, .slice A m c]] w fun e w' => e = .returned (.bool (mayK 1 n s m)) ∧ Below w.heap.size w w' := by
  have HV : Aside0 (mayK 1 n s m = true) := ⟨by unfold mayK; first | (simp [*]; done) | (simp [*]; omega)⟩
  have f1 : decide (n < 0) = false := decide_eq_false (by omega)
  obtain rfl := size_nil se
  subst l0
  clear nge
  rw [HV.out]
  clear HV
  go_enter Try.func99, Try.ntmps99
  go_wp2_with fail
  go_ret
  exact ⟨rfl, below_alloc (Below.refl _ _) _⟩
set_option maxHeartbeats 8000000 in
set_option maxRecDepth 100000 in
theorem may_3 (n : Int) (s : ByteArray) (A : Option Addr) (m c : Nat) (w : World) (nge : 0 ≤ n) (se : s.size = 0) (lp : 0 < m) :
    Calls Try.prog 99 #[.agg #[.int .i64 1, .int .i64 n, .string s, .slice A m c]] w fun e w' => e = .returned (.bool (mayK 1 n s m)) ∧ Below w.heap.size w w' := by
  have HV : Aside0 (mayK 1 n s m = false) := ⟨by unfold mayK; first | (simp [*]; done) | (simp [*]; omega)⟩
  have f1 : decide (n < 0) = false := decide_eq_false (by omega)
  obtain rfl := size_nil se
  have l1 : decide (m ≤ 0) = false := decide_eq_false (by omega)
  have l2 : decide ((m : Int) ≤ 0) = false := decide_eq_false (by omega)
  have l3 : decide (0 < m) = true := decide_eq_true lp
  have l4 : decide ((0 : Int) < (m : Int)) = true := decide_eq_true (by omega)
  have l6 : decide (m = 0) = false := decide_eq_false (by omega)
  clear nge
  rw [HV.out]
  clear HV
  go_enter Try.func99, Try.ntmps99
  go_wp2_with fail
  go_ret
  exact ⟨rfl, below_alloc (Below.refl _ _) _⟩
set_option maxHeartbeats 8000000 in
set_option maxRecDepth 100000 in
theorem may_4 (n : Int) (s : ByteArray) (A : Option Addr) (m c : Nat) (w : World) (sne : ¬ s.size = 0) :
    Calls Try.prog 99 #[.agg #[.int .i64 2, .int .i64 n, .string s, .slice A m c]] w fun e w' => e = .returned (.bool (mayK 2 n s m)) ∧ Below w.heap.size w w' := by
  have HV : Aside0 (mayK 2 n s m = false) := ⟨by unfold mayK; first | (simp [*]; done) | (simp [*]; omega)⟩
  obtain ⟨s1, s2, s3⟩ := empty_no sne
  clear sne
  rw [HV.out]
  clear HV
  go_enter Try.func99, Try.ntmps99
  go_wp2_with fail
  go_ret
  exact ⟨rfl, below_alloc (Below.refl _ _) _⟩
set_option maxHeartbeats 8000000 in
set_option maxRecDepth 100000 in
theorem may_5 (n : Int) (s : ByteArray) (A : Option Addr) (m c : Nat) (w : World) (se : s.size = 0) (l0 : m = 0) :
    Calls Try.prog 99 #[.agg #[.int .i64 2, .int .i64 n, .string s, .slice A m c]] w fun e w' => e = .returned (.bool (mayK 2 n s m)) ∧ Below w.heap.size w w' := by
  have HV : Aside0 (mayK 2 n s m = true) := ⟨by unfold mayK; first | (simp [*]; done) | (simp [*]; omega)⟩
  obtain rfl := size_nil se
  subst l0
  rw [HV.out]
  clear HV
  go_enter Try.func99, Try.ntmps99
  go_wp2_with fail
  go_ret
  exact ⟨rfl, below_alloc (Below.refl _ _) _⟩
set_option maxHeartbeats 8000000 in
set_option maxRecDepth 100000 in
theorem may_6 (n : Int) (s : ByteArray) (A : Option Addr) (m c : Nat) (w : World) (se : s.size = 0) (lp : 0 < m) :
    Calls Try.prog 99 #[.agg #[.int .i64 2, .int .i64 n, .string s, .slice A m c]] w fun e w' => e = .returned (.bool (mayK 2 n s m)) ∧ Below w.heap.size w w' := by
  have HV : Aside0 (mayK 2 n s m = false) := ⟨by unfold mayK; first | (simp [*]; done) | (simp [*]; omega)⟩
  obtain rfl := size_nil se
  have l1 : decide (m ≤ 0) = false := decide_eq_false (by omega)
  have l2 : decide ((m : Int) ≤ 0) = false := decide_eq_false (by omega)
  have l3 : decide (0 < m) = true := decide_eq_true lp
  have l4 : decide ((0 : Int) < (m : Int)) = true := decide_eq_true (by omega)
  have l6 : decide (m = 0) = false := decide_eq_false (by omega)
  rw [HV.out]
  clear HV
  go_enter Try.func99, Try.ntmps99
  go_wp2_with fail
  go_ret
  exact ⟨rfl, below_alloc (Below.refl _ _) _⟩
set_option maxHeartbeats 8000000 in
set_option maxRecDepth 100000 in
theorem may_7 (n : Int) (s : ByteArray) (A : Option Addr) (m c : Nat) (w : World) (nnz : ¬ n = 0) :
    Calls Try.prog 99 #[.agg #[.int .i64 3, .int .i64 n, .string s, .slice A m c]] w fun e w' => e = .returned (.bool (mayK 3 n s m)) ∧ Below w.heap.size w w' := by
  have HV : Aside0 (mayK 3 n s m = false) := ⟨by unfold mayK; first | (simp [*]; done) | (simp [*]; omega)⟩
  have n1 : (n == 0) = false := by simpa using nnz
  have n2 : (n != 0) = true := by simpa using nnz
  clear nnz
  rw [HV.out]
  clear HV
  go_enter Try.func99, Try.ntmps99
  go_wp2_with fail
  go_ret
  exact ⟨rfl, below_alloc (Below.refl _ _) _⟩
set_option maxHeartbeats 8000000 in
set_option maxRecDepth 100000 in
theorem may_8 (n : Int) (s : ByteArray) (A : Option Addr) (m c : Nat) (w : World) (nz : n = 0) (sbig : 1000 < s.size) :
    Calls Try.prog 99 #[.agg #[.int .i64 3, .int .i64 n, .string s, .slice A m c]] w fun e w' => e = .returned (.bool (mayK 3 n s m)) ∧ Below w.heap.size w w' := by
  have HV : Aside0 (mayK 3 n s m = false) := ⟨by unfold mayK; first | (simp [*]; done) | (simp [*]; omega)⟩
  subst nz
  have b1 : decide (1000 < s.size) = true := decide_eq_true sbig
  have b2 : decide ((1000 : Int) < (s.size : Int)) = true := decide_eq_true (by omega)
  clear sbig
  rw [HV.out]
  clear HV
  go_enter Try.func99, Try.ntmps99
  go_wp2_with fail
  go_ret
  exact ⟨rfl, below_alloc (Below.refl _ _) _⟩
set_option maxHeartbeats 8000000 in
set_option maxRecDepth 100000 in
theorem may_9 (n : Int) (s : ByteArray) (A : Option Addr) (m c : Nat) (w : World) (nz : n = 0) (sok : s.size ≤ 1000) (l0 : m = 0) :
    Calls Try.prog 99 #[.agg #[.int .i64 3, .int .i64 n, .string s, .slice A m c]] w fun e w' => e = .returned (.bool (mayK 3 n s m)) ∧ Below w.heap.size w w' := by
  have HV : Aside0 (mayK 3 n s m = true) := ⟨by unfold mayK; first | (simp [*]; done) | (simp [*]; omega)⟩
  subst nz
  have b1 : decide (1000 < s.size) = false := decide_eq_false (by omega)
  have b2 : decide ((1000 : Int) < (s.size : Int)) = false := decide_eq_false (by omega)
  subst l0
  clear sok
  rw [HV.out]
  clear HV
  go_enter Try.func99, Try.ntmps99
  go_wp2_with fail
  go_ret
  exact ⟨rfl, below_alloc (Below.refl _ _) _⟩
set_option maxHeartbeats 8000000 in
set_option maxRecDepth 100000 in
theorem may_10 (n : Int) (s : ByteArray) (A : Option Addr) (m c : Nat) (w : World) (nz : n = 0) (sok : s.size ≤ 1000) (lp : 0 < m) :
    Calls Try.prog 99 #[.agg #[.int .i64 3, .int .i64 n, .string s, .slice A m c]] w fun e w' => e = .returned (.bool (mayK 3 n s m)) ∧ Below w.heap.size w w' := by
  have HV : Aside0 (mayK 3 n s m = false) := ⟨by unfold mayK; first | (simp [*]; done) | (simp [*]; omega)⟩
  subst nz
  have b1 : decide (1000 < s.size) = false := decide_eq_false (by omega)
  have b2 : decide ((1000 : Int) < (s.size : Int)) = false := decide_eq_false (by omega)
  have l1 : decide (m ≤ 0) = false := decide_eq_false (by omega)
  have l2 : decide ((m : Int) ≤ 0) = false := decide_eq_false (by omega)
  have l3 : decide (0 < m) = true := decide_eq_true lp
  have l4 : decide ((0 : Int) < (m : Int)) = true := decide_eq_true (by omega)
  have l6 : decide (m = 0) = false := decide_eq_false (by omega)
  clear sok
  rw [HV.out]
  clear HV
  go_enter Try.func99, Try.ntmps99
  go_wp2_with fail
  go_ret
  exact ⟨rfl, below_alloc (Below.refl _ _) _⟩
set_option maxHeartbeats 8000000 in
set_option maxRecDepth 100000 in
theorem may_11 (n : Int) (s : ByteArray) (A : Option Addr) (m c : Nat) (w : World) (nnz : ¬ n = 0) :
    Calls Try.prog 99 #[.agg #[.int .i64 4, .int .i64 n, .string s, .slice A m c]] w fun e w' => e = .returned (.bool (mayK 4 n s m)) ∧ Below w.heap.size w w' := by
  have HV : Aside0 (mayK 4 n s m = false) := ⟨by unfold mayK; first | (simp [*]; done) | (simp [*]; omega)⟩
  have n1 : (n == 0) = false := by simpa using nnz
  have n2 : (n != 0) = true := by simpa using nnz
  clear nnz
  rw [HV.out]
  clear HV
  go_enter Try.func99, Try.ntmps99
  go_wp2_with fail
  go_ret
  exact ⟨rfl, below_alloc (Below.refl _ _) _⟩
set_option maxHeartbeats 8000000 in
set_option maxRecDepth 100000 in
theorem may_12 (n : Int) (s : ByteArray) (A : Option Addr) (m c : Nat) (w : World) (nz : n = 0) (sbig : 1000 < s.size) :
    Calls Try.prog 99 #[.agg #[.int .i64 4, .int .i64 n, .string s, .slice A m c]] w fun e w' => e = .returned (.bool (mayK 4 n s m)) ∧ Below w.heap.size w w' := by
  have HV : Aside0 (mayK 4 n s m = false) := ⟨by unfold mayK; first | (simp [*]; done) | (simp [*]; omega)⟩
  subst nz
  have b1 : decide (1000 < s.size) = true := decide_eq_true sbig
  have b2 : decide ((1000 : Int) < (s.size : Int)) = true := decide_eq_true (by omega)
  clear sbig
  rw [HV.out]
  clear HV
  go_enter Try.func99, Try.ntmps99
  go_wp2_with fail
  go_ret
  exact ⟨rfl, below_alloc (Below.refl _ _) _⟩
set_option maxHeartbeats 8000000 in
set_option maxRecDepth 100000 in
theorem may_13 (n : Int) (s : ByteArray) (A : Option Addr) (m c : Nat) (w : World) (nz : n = 0) (sok : s.size ≤ 1000) (l0 : m = 0) :
    Calls Try.prog 99 #[.agg #[.int .i64 4, .int .i64 n, .string s, .slice A m c]] w fun e w' => e = .returned (.bool (mayK 4 n s m)) ∧ Below w.heap.size w w' := by
  have HV : Aside0 (mayK 4 n s m = false) := ⟨by unfold mayK; first | (simp [*]; done) | (simp [*]; omega)⟩
  subst nz
  have b1 : decide (1000 < s.size) = false := decide_eq_false (by omega)
  have b2 : decide ((1000 : Int) < (s.size : Int)) = false := decide_eq_false (by omega)
  subst l0
  clear sok
  rw [HV.out]
  clear HV
  go_enter Try.func99, Try.ntmps99
  go_wp2_with fail
  go_ret
  exact ⟨rfl, below_alloc (Below.refl _ _) _⟩
set_option maxHeartbeats 8000000 in
set_option maxRecDepth 100000 in
theorem may_14 (n : Int) (s : ByteArray) (A : Option Addr) (m c : Nat) (w : World) (nz : n = 0) (sok : s.size ≤ 1000) (lp : 0 < m) (lok : m ≤ 255) :
    Calls Try.prog 99 #[.agg #[.int .i64 4, .int .i64 n, .string s, .slice A m c]] w fun e w' => e = .returned (.bool (mayK 4 n s m)) ∧ Below w.heap.size w w' := by
  have HV : Aside0 (mayK 4 n s m = true) := ⟨by unfold mayK; first | (simp [*]; done) | (simp [*]; omega)⟩
  subst nz
  have b1 : decide (1000 < s.size) = false := decide_eq_false (by omega)
  have b2 : decide ((1000 : Int) < (s.size : Int)) = false := decide_eq_false (by omega)
  have l1 : decide (m ≤ 0) = false := decide_eq_false (by omega)
  have l2 : decide ((m : Int) ≤ 0) = false := decide_eq_false (by omega)
  have l3 : decide (0 < m) = true := decide_eq_true lp
  have l4 : decide ((0 : Int) < (m : Int)) = true := decide_eq_true (by omega)
  have l6 : decide (m = 0) = false := decide_eq_false (by omega)
  have o1 : decide (m ≤ 255) = true := decide_eq_true lok
  have o2 : decide ((m : Int) ≤ 255) = true := decide_eq_true (by omega)
  clear sok lok
  rw [HV.out]
  clear HV
  go_enter Try.func99, Try.ntmps99
  go_wp2_with fail
  go_ret
  exact ⟨rfl, below_alloc (Below.refl _ _) _⟩
set_option maxHeartbeats 8000000 in
set_option maxRecDepth 100000 in
theorem may_15 (n : Int) (s : ByteArray) (A : Option Addr) (m c : Nat) (w : World) (nz : n = 0) (sok : s.size ≤ 1000) (lp : 0 < m) (lbig : 255 < m) :
    Calls Try.prog 99 #[.agg #[.int .i64 4, .int .i64 n, .string s, .slice A m c]] w fun e w' => e = .returned (.bool (mayK 4 n s m)) ∧ Below w.heap.size w w' := by
  have HV : Aside0 (mayK 4 n s m = false) := ⟨by unfold mayK; first | (simp [*]; done) | (simp [*]; omega)⟩
  subst nz
  have b1 : decide (1000 < s.size) = false := decide_eq_false (by omega)
  have b2 : decide ((1000 : Int) < (s.size : Int)) = false := decide_eq_false (by omega)
  have l1 : decide (m ≤ 0) = false := decide_eq_false (by omega)
  have l2 : decide ((m : Int) ≤ 0) = false := decide_eq_false (by omega)
  have l3 : decide (0 < m) = true := decide_eq_true lp
  have l4 : decide ((0 : Int) < (m : Int)) = true := decide_eq_true (by omega)
  have l6 : decide (m = 0) = false := decide_eq_false (by omega)
  have o1 : decide (m ≤ 255) = false := decide_eq_false (by omega)
  have o2 : decide ((m : Int) ≤ 255) = false := decide_eq_false (by omega)
  clear sok lbig
  rw [HV.out]
  clear HV
  go_enter Try.func99, Try.ntmps99
  go_wp2_with fail
  go_ret
  exact ⟨rfl, below_alloc (Below.refl _ _) _⟩
set_option maxHeartbeats 8000000 in
set_option maxRecDepth 100000 in
theorem may_16 (k : Int) (n : Int) (s : ByteArray) (A : Option Addr) (m c : Nat) (w : World) (k1 : ¬ k = 1) (k2 : ¬ k = 2) (k3 : ¬ k = 3) (k4 : ¬ k = 4) :
    Calls Try.prog 99 #[.agg #[.int .i64 k, .int .i64 n, .string s, .slice A m c]] w fun e w' => e = .returned (.bool (mayK k n s m)) ∧ Below w.heap.size w w' := by
  have HV : Aside0 (mayK k n s m = false) := ⟨by unfold mayK; first | (simp [*]; done) | (simp [*]; omega)⟩
  have e1 : (k == 1) = false := by simpa using k1
  have e2 : (k == 2) = false := by simpa using k2
  have e3 : (k == 3) = false := by simpa using k3
  have e4 : (k == 4) = false := by simpa using k4
  clear k1 k2 k3 k4
  rw [HV.out]
  clear HV
  go_enter Try.func99, Try.ntmps99
  go_wp2_with fail
  go_ret
  exact ⟨rfl, below_alloc (Below.refl _ _) _⟩
theorem may_calls (k n : Int) (s : ByteArray) (A : Option Addr) (m c : Nat) (w : World) :
    Calls Try.prog 99 #[.agg #[.int .i64 k, .int .i64 n, .string s, .slice A m c]] w fun e w' => e = .returned (.bool (mayK k n s m)) ∧ Below w.heap.size w w' := by
  by_cases k1 : k = 1
  · subst k1
    rcases Int.lt_or_le n 0 with h | h
    · exact may_0 n s A m c w h
    by_cases hs : s.size = 0
    · rcases Nat.eq_zero_or_pos m with hm | hm
      · exact may_2 n s A m c w h hs hm
      · exact may_3 n s A m c w h hs hm
    · exact may_1 n s A m c w h hs
  by_cases k2 : k = 2
  · subst k2
    by_cases hs : s.size = 0
    · rcases Nat.eq_zero_or_pos m with hm | hm
      · exact may_5 n s A m c w hs hm
      · exact may_6 n s A m c w hs hm
    · exact may_4 n s A m c w hs
  by_cases k3 : k = 3
  · subst k3
    by_cases h : n = 0
    · rcases Nat.lt_or_ge 1000 s.size with hs | hs
      · exact may_8 n s A m c w h hs
      rcases Nat.eq_zero_or_pos m with hm | hm
      · exact may_9 n s A m c w h hs hm
      · exact may_10 n s A m c w h hs hm
    · exact may_7 n s A m c w h
  by_cases k4 : k = 4
  · subst k4
    by_cases h : n = 0
    · rcases Nat.lt_or_ge 1000 s.size with hs | hs
      · exact may_12 n s A m c w h hs
      rcases Nat.eq_zero_or_pos m with hm | hm
      · exact may_13 n s A m c w h hs hm
      rcases Nat.lt_or_ge 255 m with hl | hl
      · exact may_15 n s A m c w h hs hm hl
      · exact may_14 n s A m c w h hs hm hl
    · exact may_11 n s A m c w h
  · exact may_16 k n s A m c w k1 k2 k3 k4
end Go.Proofs.Ythdnaliahdohhaa.H
