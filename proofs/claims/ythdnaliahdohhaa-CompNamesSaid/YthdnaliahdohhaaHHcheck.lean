/- Terms: how many parts, how deep, whether all parts may be (term.Size, Deep, all, Check). -/
import Derived.Test.YthdnaliahdohhaaHHmay
namespace Go.Proofs.Ythdnaliahdohhaa.H
open Go.RowKit Go.Proofs.YthdnaliahdohhaaW.PrintWords Go.Proofs.YthdnaliahdohhaaW.PrintLast Go.Proofs.YthdnaliahdohhaaW.PrintMore Go.Proofs.Ythdnaliahdohhaa.Map
attribute [local go_sem] max2_int min2_int max_two min_two max_three min_three max_four min_four
set_option linter.unusedVariables false
set_option linter.unusedSimpArgs false
theorem szL_append : ∀ a b : List S58, szL (a ++ b) = szL a + szL b
  | [], b => by simp [szL]
  | x :: a, b => by simp [szL, szL_append a b]; omega
theorem szL_take (l : List S58) (k : Nat) (h : k < l.length) : szL (l.take (k + 1)) = szL (l.take k) + szT (rd_T58 l k) := by
  rw [take_rd l k h, szL_append]; simp [szL]
theorem szL_take_le (l : List S58) (k : Nat) : szL (l.take k) ≤ szL l := by
  have := szL_append (l.take k) (l.drop k)
  rw [List.take_append_drop] at this
  omega
mutual
/-- how deep -/
def dpT : S58 → Nat
  | ⟨_, _, _, l⟩ => dpL l + 1
def dpL : List S58 → Nat
  | [] => 0
  | x :: l => max (dpT x) (dpL l)
end
theorem dpT_eq (x : S58) : dpT x = dpL x.f3 + 1 := by cases x; rfl
theorem dpL_append : ∀ a b : List S58, dpL (a ++ b) = max (dpL a) (dpL b)
  | [], b => by simp [dpL]
  | x :: a, b => by simp [dpL, dpL_append a b, Nat.max_assoc]
theorem dpL_take (l : List S58) (k : Nat) (h : k < l.length) : dpL (l.take (k + 1)) = max (dpL (l.take k)) (dpT (rd_T58 l k)) := by
  rw [take_rd l k h, dpL_append]; simp [dpL]
theorem ite_max (m d : Nat) : Value.int .i64 (if m < d then (d : Int) else (m : Int)) = .int .i64 ((max m d : Nat) : Int) := by
  rw [Nat.max_def]; congr 1; split <;> split <;> omega
mutual
theorem dpT_le : ∀ x : S58, dpT x ≤ szT x
  | ⟨_, _, _, l⟩ => by have := dpL_le l; simp [dpT, szT]; omega
theorem dpL_le : ∀ l : List S58, dpL l ≤ szL l
  | [] => by simp [dpL]
  | x :: l => by have := dpT_le x; have := dpL_le l; simp [dpL, szL]; omega
end
set_option maxHeartbeats 8000000 in
set_option maxRecDepth 100000 in
theorem size_calls (n : Nat) (hn : n ≤ 1000000) : ∀ (x : S58) (hx : szT x ≤ n) (A : Option Addr) (c : Nat) (w : World) (hC : Kd.C k58 w A x.f3.length x.f3),
    Calls Try.prog 79 #[.agg #[.int .i64 x.f0, .int .i64 x.f1, .string x.f2, .slice A x.f3.length c]] w fun e w' => e = .returned (.int .i64 (szT x : Nat)) ∧ Below w.heap.size w w' := by
  induction n with
  | zero => intro x hx; have := szT_eq x; omega
  | succ n ih0 =>
  have ih := ih0 (by omega)
  clear ih0
  intro x hx A c w hC
  have HC := Aside0.mk hC
  have Hs : Aside0 (szL x.f3 ≤ 999999) := ⟨by have := szT_eq x; omega⟩
  have Hx := Aside0.mk (show szL x.f3 ≤ n by have := szT_eq x; omega)
  clear hx hC
  have hlm : x.f3.length ≤ 9223372036854775807 := HC.out.2.1
  go_enter Try.func79, Try.ntmps79
  go_wp2_with fail
  have B0 := Aside0.mk (below_alloc (Below.refl w.heap.size w) (.cells #[.int .i64 x.f0, .int .i64 x.f1, .string x.f2, .slice A x.f3.length c] 58))
  generalize (w.alloc (.cells #[.int .i64 x.f0, .int .i64 x.f1, .string x.f2, .slice A x.f3.length c] 58)) = w1 at B0 ⊢
  go_loopw [3, 9] (fun a i wr => ∃ (m k : Nat), a = .int .i64 m ∧ i = .int .i64 k ∧ Aside0 (k ≤ x.f3.length) ∧ Aside0 (m = szL (x.f3.take k) + 1) ∧ Aside0 (Below w.heap.size w wr)) (fun _ i _ => x.f3.length - (intOf i).toNat)
  case atStart => exact ⟨1, 0, rfl, rfl, ⟨by omega⟩, ⟨rfl⟩, B0⟩
  case round =>
    clear B0
    obtain ⟨m, k, rfl, rfl, hk, hm, HB⟩ := hrel
    by_cases hlt : k < x.f3.length
    · have hy : Aside0 (szT (rd_T58 x.f3 k) ≤ n) := ⟨Nat.le_trans (szL_rd _ _ hlt) Hx.out⟩
      have Htk := Aside0.mk (szL_take x.f3 k hlt)
      have hm1 : m ≤ 1000000 := by have := hm.out; have := szL_take_le x.f3 k; have := Hs.out; omega
      have hq1 : szT (rd_T58 x.f3 k) ≤ 1000000 := by have := hy.out; omega
      obtain ⟨ad, B, d, ead, e0, e1, e2, e3, hd, hB⟩ := at_T58 HC.out (k : Int) (by omega) (by omega)
      have q0 := (HB.out.cell (World.block_lt_of_cell? w _ e0)).trans e0
      have q1 := (HB.out.cell (World.block_lt_of_cell? w _ e1)).trans e1
      have q2 := (HB.out.cell (World.block_lt_of_cell? w _ e2)).trans e2
      have q3 := (HB.out.cell (World.block_lt_of_cell? w _ e3)).trans e3
      have hB := Aside0.mk (Kd.C_below hB HB.out)
      have hd := Aside0.mk hd
      subst ead
      clear e0 e1 e2 e3
      generalize rd_T58 x.f3 k = y at *
      simp only [Int.toNat_natCast] at q0 q1 q2 q3
      have hlt2 : decide ((k : Int) < (x.f3.length : Int)) = true := decide_eq_true (by omega)
      have hlt3 : decide (k < x.f3.length) = true := decide_eq_true hlt
      have hb4 := Aside0.mk (below_alloc (Below.refl wr.heap.size wr) (.cells #[.int .i64 y.f0, .int .i64 y.f1, .string y.f2, .slice B y.f3.length d] 58))
      go_wp2_with (go_at_call 79; refine (ih y hy.out _ _ _ (Kd.C_below hB.out hb4.out)).mono ?_; rintro e w5 ⟨rfl, hb5⟩)
      go_roundw
      case rel => exact ⟨m + szT y, k + 1, by go_num, by go_num, ⟨by omega⟩, ⟨by rw [Htk.out, hm.out]; omega⟩, ⟨below_step (below_step HB.out hb4.out) hb5⟩⟩
      case measure => simp [intOf]; omega
    · have hlt2 : decide ((k : Int) < (x.f3.length : Int)) = false := decide_eq_false (by omega)
      have hlt3 : decide (k < x.f3.length) = false := decide_eq_false hlt
      obtain rfl : k = x.f3.length := by have := hk.out; omega
      go_wp2_with fail
      go_ret
      exact ⟨by have := hm.out; rw [List.take_length] at this; rw [this, szT_eq]; rfl, HB.out⟩
set_option maxHeartbeats 8000000 in
set_option maxRecDepth 100000 in
theorem deep_calls (n : Nat) (hn : n ≤ 1000000) : ∀ (x : S58) (hx : szT x ≤ n) (A : Option Addr) (c : Nat) (w : World) (hC : Kd.C k58 w A x.f3.length x.f3),
    Calls Try.prog 89 #[.agg #[.int .i64 x.f0, .int .i64 x.f1, .string x.f2, .slice A x.f3.length c]] w fun e w' => e = .returned (.int .i64 (dpT x : Nat)) ∧ Below w.heap.size w w' := by
  induction n with
  | zero => intro x hx; have := szT_eq x; omega
  | succ n ih0 =>
  have ih := ih0 (by omega)
  clear ih0
  intro x hx A c w hC
  have HC := Aside0.mk hC
  have Hs : Aside0 (szL x.f3 ≤ 999999) := ⟨by have := szT_eq x; omega⟩
  have Hx := Aside0.mk (show szL x.f3 ≤ n by have := szT_eq x; omega)
  clear hx hC
  have hlm : x.f3.length ≤ 9223372036854775807 := HC.out.2.1
  go_enter Try.func89, Try.ntmps89
  go_wp2_with fail
  have B0 := Aside0.mk (below_alloc (Below.refl w.heap.size w) (.cells #[.int .i64 x.f0, .int .i64 x.f1, .string x.f2, .slice A x.f3.length c] 58))
  generalize (w.alloc (.cells #[.int .i64 x.f0, .int .i64 x.f1, .string x.f2, .slice A x.f3.length c] 58)) = w1 at B0 ⊢
  go_loopw [3, 9] (fun a i wr => ∃ (m k : Nat), a = .int .i64 m ∧ i = .int .i64 k ∧ Aside0 (k ≤ x.f3.length) ∧ Aside0 (m = dpL (x.f3.take k)) ∧ Aside0 (Below w.heap.size w wr)) (fun _ i _ => x.f3.length - (intOf i).toNat)
  case atStart => exact ⟨0, 0, rfl, rfl, ⟨by omega⟩, ⟨rfl⟩, B0⟩
  case round =>
    clear B0
    obtain ⟨m, k, rfl, rfl, hk, hm, HB⟩ := hrel
    by_cases hlt : k < x.f3.length
    · have hy : Aside0 (szT (rd_T58 x.f3 k) ≤ n) := ⟨Nat.le_trans (szL_rd _ _ hlt) Hx.out⟩
      have Htk := Aside0.mk (dpL_take x.f3 k hlt)
      have hm1 : m ≤ 1000000 := by have := hm.out; have := dpL_le (x.f3.take k); have := szL_take_le x.f3 k; have := Hs.out; omega
      have hq1 : dpT (rd_T58 x.f3 k) ≤ 1000000 := by have := hy.out; have := dpT_le (rd_T58 x.f3 k); omega
      obtain ⟨ad, B, d, ead, e0, e1, e2, e3, hd, hB⟩ := at_T58 HC.out (k : Int) (by omega) (by omega)
      have q0 := (HB.out.cell (World.block_lt_of_cell? w _ e0)).trans e0
      have q1 := (HB.out.cell (World.block_lt_of_cell? w _ e1)).trans e1
      have q2 := (HB.out.cell (World.block_lt_of_cell? w _ e2)).trans e2
      have q3 := (HB.out.cell (World.block_lt_of_cell? w _ e3)).trans e3
      have hB := Aside0.mk (Kd.C_below hB HB.out)
      have hd := Aside0.mk hd
      subst ead
      clear e0 e1 e2 e3
      generalize rd_T58 x.f3 k = y at *
      simp only [Int.toNat_natCast] at q0 q1 q2 q3
      have hlt2 : decide ((k : Int) < (x.f3.length : Int)) = true := decide_eq_true (by omega)
      have hlt3 : decide (k < x.f3.length) = true := decide_eq_true hlt
      have hb4 := Aside0.mk (below_alloc (Below.refl wr.heap.size wr) (.cells #[.int .i64 y.f0, .int .i64 y.f1, .string y.f2, .slice B y.f3.length d] 58))
      go_wp2_with (go_at_call 89; refine (ih y hy.out _ _ _ (Kd.C_below hB.out hb4.out)).mono ?_; rintro e w5 ⟨rfl, hb5⟩)
      go_roundw
      case rel => exact ⟨max m (dpT y), k + 1, ite_max m (dpT y), by go_num, ⟨by omega⟩, ⟨by rw [Htk.out, hm.out]⟩, ⟨below_step (below_step HB.out hb4.out) hb5⟩⟩
      case measure => simp [intOf]; omega
    · have hlt2 : decide ((k : Int) < (x.f3.length : Int)) = false := decide_eq_false (by omega)
      have hlt3 : decide (k < x.f3.length) = false := decide_eq_false hlt
      obtain rfl : k = x.f3.length := by have := hk.out; omega
      have hm1 : m ≤ 1000000 := by have := hm.out; have := dpL_le (x.f3.take x.f3.length); have := szL_take_le x.f3 x.f3.length; have := Hs.out; omega
      go_wp2_with fail
      go_ret
      exact ⟨by have := hm.out; rw [List.take_length] at this; rw [dpT_eq, ← this]; rfl, HB.out⟩
mutual
/-- may all parts be -/
def allM : S58 → Bool
  | ⟨k, n, s, l⟩ => mayK k n s l.length && allL l
def allL : List S58 → Bool
  | [] => true
  | x :: l => allM x && allL l
end
theorem allM_eq (x : S58) : allM x = (mayK x.f0 x.f1 x.f2 x.f3.length && allL x.f3) := by cases x; rfl
theorem allL_true : ∀ l : List S58, (∀ j : Nat, j < l.length → allM (rd_T58 l j) = true) → allL l = true
  | [], _ => rfl
  | x :: l, h => by
    have h0 := h 0 (by simp)
    have h1 := allL_true l (fun j hj => h (j + 1) (by simp; omega))
    have : allM x = true := h0
    simp [allL, this, h1]
theorem allL_false : ∀ (l : List S58) (k : Nat), k < l.length → allM (rd_T58 l k) = false → allL l = false
  | x :: l, 0, _, h => by
    have : allM x = false := h
    simp [allL, this]
  | x :: l, k + 1, hk, h => by
    have := allL_false l k (by simpa using hk) h
    simp [allL, this]
def fMay : Value := .func (.func 99) #[] #[]
/-- what all says of every smaller term -/
def AllAt (n : Nat) : Prop := ∀ (x : S58) (hx : szT x ≤ n) (A : Option Addr) (c : Nat) (w : World) (hC : Kd.C k58 w A x.f3.length x.f3),
    Calls Try.prog 98 #[.agg #[.int .i64 x.f0, .int .i64 x.f1, .string x.f2, .slice A x.f3.length c], .func (.func 99) #[] #[]] w fun e w' => e = .returned (.bool (allM x)) ∧ Below w.heap.size w w'
set_option maxHeartbeats 8000000 in
set_option maxRecDepth 100000 in
theorem all1_calls {n : Nat} (ih : AllAt n) (x : S58) (hx : szT x ≤ n) (A : Option Addr) (c g : Nat) (w : World) (hC : Kd.C k58 w A x.f3.length x.f3) (hg : w.heap[g]? = some (.cells #[.func (.func 99) #[] #[]] 169 (0, 0))) :
    Calls Try.prog 113 #[.agg #[.int .i64 x.f0, .int .i64 x.f1, .string x.f2, .slice A x.f3.length c], .pointer (some ⟨g, 0, none⟩)] w fun e w' => e = .returned (.bool (!allM x)) ∧ Below w.heap.size w w' := by
  have HC := Aside0.mk hC
  have Hx := Aside0.mk hx
  have Hih := Aside0.mk ih
  have hb4 := Aside0.mk (below_alloc (Below.refl w.heap.size w) (.cells #[.int .i64 x.f0, .int .i64 x.f1, .string x.f2, .slice A x.f3.length c] 58))
  have cg : (w.alloc (.cells #[.int .i64 x.f0, .int .i64 x.f1, .string x.f2, .slice A x.f3.length c] 58)).cell? ⟨g, 0, none⟩ = some (.func (.func 99) #[] #[]) := (blk_cell (blk_below hg hb4.out) 0).trans rfl
  clear hC hx ih hg
  go_enter Try.func113, Try.ntmps113
  go_wp2_with (go_at_call 98; refine (Hih.out x Hx.out A c _ (Kd.C_below HC.out hb4.out)).mono ?_; rintro e w5 ⟨rfl, hb5⟩)
  go_ret
  exact ⟨rfl, below_step hb4.out hb5⟩
set_option maxHeartbeats 8000000 in
set_option maxRecDepth 100000 in
theorem indexT_calls {n : Nat} (ih : AllAt n) (l : List S58) (hl : szL l ≤ n) (A : Option Addr) (c g : Nat) (w : World) (hC : Kd.C k58 w A l.length l) (hg : w.heap[g]? = some (.cells #[.func (.func 99) #[] #[]] 169 (0, 0))) :
    Calls Try.prog 116 #[.slice A l.length c, .func (.func 113) #[] #[.pointer (some ⟨g, 0, none⟩)]] w fun e w' => (∃ r : Int, e = .returned (.int .i64 r) ∧ decide (0 ≤ r) = !allL l) ∧ Below w.heap.size w w' := by
  have HC := Aside0.mk hC
  have Hl := Aside0.mk hl
  have Hih := Aside0.mk ih
  have Hg := Aside0.mk hg
  have hlm : l.length ≤ 9223372036854775807 := HC.out.2.1
  clear hC hl ih hg
  go_enter Try.func116, Try.ntmps116
  go_wp2_with fail
  go_loopw [8] (fun i wr => ∃ (k : Nat), i = .int .i64 k ∧ Aside0 (k ≤ l.length) ∧ Aside0 (∀ j : Nat, j < k → allM (rd_T58 l j) = true) ∧ Aside0 (Below w.heap.size w wr)) (fun i _ => l.length - (intOf i).toNat)
  case atStart => exact ⟨0, rfl, ⟨by omega⟩, ⟨by omega⟩, ⟨Below.refl _ _⟩⟩
  case round =>
    obtain ⟨k, rfl, hk, hj, HB⟩ := hrel
    by_cases hlt : k < l.length
    · have hy : Aside0 (szT (rd_T58 l k) ≤ n) := ⟨Nat.le_trans (szL_rd _ _ hlt) Hl.out⟩
      have Hbad := Aside0.mk (allL_false l k hlt)
      have Hgood : Aside0 (allM (rd_T58 l k) = true → ∀ j : Nat, j < k + 1 → allM (rd_T58 l j) = true) := by
        refine ⟨fun h j hj2 => ?_⟩
        rcases Nat.lt_or_ge j k with h1 | h1
        · exact hj.out j h1
        · obtain rfl : j = k := by omega
          exact h
      clear hj
      obtain ⟨ad, B, d, ead, e0, e1, e2, e3, hd, hB⟩ := at_T58 HC.out (k : Int) (by omega) (by omega)
      have q0 := (HB.out.cell (World.block_lt_of_cell? w _ e0)).trans e0
      have q1 := (HB.out.cell (World.block_lt_of_cell? w _ e1)).trans e1
      have q2 := (HB.out.cell (World.block_lt_of_cell? w _ e2)).trans e2
      have q3 := (HB.out.cell (World.block_lt_of_cell? w _ e3)).trans e3
      have hB := Aside0.mk (Kd.C_below hB HB.out)
      have hd := Aside0.mk hd
      subst ead
      clear e0 e1 e2 e3
      generalize rd_T58 l k = y at *
      simp only [Int.toNat_natCast] at q0 q1 q2 q3
      have hlt2 : decide ((k : Int) < (l.length : Int)) = true := decide_eq_true (by omega)
      have hlt3 : decide (k < l.length) = true := decide_eq_true hlt
      by_cases hm : allM y = true
      · have hm2 : (!allM y) = false := by rw [hm]; rfl
        have Hm := Aside0.mk (Hgood.out hm)
        clear hm Hgood Hbad
        go_wp2_with (go_at_call 113; refine (all1_calls Hih.out y hy.out _ _ g _ hB.out (blk_below Hg.out HB.out)).mono ?_; rintro e w5 ⟨rfl, hb5⟩)
        go_roundw
        case rel => exact ⟨k + 1, by go_num, ⟨by omega⟩, Hm, ⟨below_step HB.out hb5⟩⟩
        case measure => simp [intOf]; omega
      · have hm1 : allM y = false := by simpa using hm
        have hm2 : (!allM y) = true := by rw [hm1]; rfl
        have Hm := Aside0.mk (Hbad.out hm1)
        clear hm hm1 Hgood Hbad
        go_wp2_with (go_at_call 113; refine (all1_calls Hih.out y hy.out _ _ g _ hB.out (blk_below Hg.out HB.out)).mono ?_; rintro e w5 ⟨rfl, hb5⟩)
        go_ret
        exact ⟨⟨k, rfl, by rw [Hm.out]; simp⟩, below_step HB.out hb5⟩
    · have hlt2 : decide ((k : Int) < (l.length : Int)) = false := decide_eq_false (by omega)
      have hlt3 : decide (k < l.length) = false := decide_eq_false hlt
      obtain rfl : k = l.length := by have := hk.out; omega
      have HV := Aside0.mk (allL_true l hj.out)
      clear hj
      go_wp2_with fail
      go_ret
      exact ⟨⟨-1, rfl, by rw [HV.out]; rfl⟩, HB.out⟩
set_option maxHeartbeats 8000000 in
set_option maxRecDepth 100000 in
theorem containsT_calls {n : Nat} (ih : AllAt n) (l : List S58) (hl : szL l ≤ n) (A : Option Addr) (c g : Nat) (w : World) (hC : Kd.C k58 w A l.length l) (hg : w.heap[g]? = some (.cells #[.func (.func 99) #[] #[]] 169 (0, 0))) :
    Calls Try.prog 112 #[.slice A l.length c, .func (.func 113) #[] #[.pointer (some ⟨g, 0, none⟩)]] w fun e w' => e = .returned (.bool (!allL l)) ∧ Below w.heap.size w w' := by
  have HC := Aside0.mk hC
  have Hl := Aside0.mk hl
  have Hih := Aside0.mk ih
  have Hg := Aside0.mk hg
  clear hC hl ih hg
  go_enter Try.func112, Try.ntmps112
  go_wp2_with (go_at_call 116; refine (indexT_calls Hih.out l Hl.out A c g _ HC.out Hg.out).mono ?_; rintro e w5 ⟨⟨r, rfl, hr0⟩, hb5⟩; have hr := Aside0.mk hr0; clear hr0)
  go_ret
  exact ⟨by rw [← hr.out]; rfl, hb5⟩
set_option maxHeartbeats 8000000 in
set_option maxRecDepth 100000 in
theorem all_no {n : Nat} (x : S58) (A : Option Addr) (c : Nat) (w : World) (hC : Kd.C k58 w A x.f3.length x.f3) (hm : mayK x.f0 x.f1 x.f2 x.f3.length = false) :
    Calls Try.prog 98 #[.agg #[.int .i64 x.f0, .int .i64 x.f1, .string x.f2, .slice A x.f3.length c], .func (.func 99) #[] #[]] w fun e w' => e = .returned (.bool (allM x)) ∧ Below w.heap.size w w' := by
  have HV : Aside0 (allM x = false) := ⟨by rw [allM_eq, hm]; rfl⟩
  have HC := Aside0.mk hC
  clear hC
  go_enter Try.func98, Try.ntmps98
  go_wp2_with (go_at_call 99; refine (may_calls _ _ _ _ _ _ _).mono ?_; rintro e w5 ⟨rfl, hb5⟩)
  go_ret
  exact ⟨by rw [HV.out]; rfl, below_step (below_alloc (below_alloc (Below.refl _ _) _) _) hb5⟩
set_option maxHeartbeats 8000000 in
set_option maxRecDepth 100000 in
theorem all_yes {n : Nat} (ih : AllAt n) (x : S58) (hx : szT x ≤ n + 1) (A : Option Addr) (c : Nat) (w : World) (hC : Kd.C k58 w A x.f3.length x.f3) (hm : mayK x.f0 x.f1 x.f2 x.f3.length = true) :
    Calls Try.prog 98 #[.agg #[.int .i64 x.f0, .int .i64 x.f1, .string x.f2, .slice A x.f3.length c], .func (.func 99) #[] #[]] w fun e w' => e = .returned (.bool (allM x)) ∧ Below w.heap.size w w' := by
  have HV : Aside0 (allM x = allL x.f3) := ⟨by rw [allM_eq, hm]; rfl⟩
  have HC := Aside0.mk hC
  have Hl : Aside0 (szL x.f3 ≤ n) := ⟨by have := szT_eq x; omega⟩
  have Hih := Aside0.mk ih
  have hmf : ∀ (fn : Fn) (first cap : Array Value) (w : World), (Instr.makeFunc fn first cap).run Try.prog w = .ok (.func fn first cap) w := fun _ _ _ _ => rfl
  have B0 : Below w.heap.size w ((w.alloc (.cells #[.int .i64 x.f0, .int .i64 x.f1, .string x.f2, .slice A x.f3.length c] 58)).alloc (.cells #[.func (.func 99) #[] #[]] 169)) := below_alloc (below_alloc (Below.refl _ _) _) _
  have K1 : ((w.alloc (.cells #[.int .i64 x.f0, .int .i64 x.f1, .string x.f2, .slice A x.f3.length c] 58)).alloc (.cells #[.func (.func 99) #[] #[]] 169)).heap[w.heap.size]? = some (.cells #[.int .i64 x.f0, .int .i64 x.f1, .string x.f2, .slice A x.f3.length c] 58 (0, 0)) := blk_alloc (heap_alloc_new _ _) _
  have K2 : ((w.alloc (.cells #[.int .i64 x.f0, .int .i64 x.f1, .string x.f2, .slice A x.f3.length c] 58)).alloc (.cells #[.func (.func 99) #[] #[]] 169)).heap[w.heap.size + 1]? = some (.cells #[.func (.func 99) #[] #[]] 169 (0, 0)) := by
    have := heap_alloc_new (w.alloc (.cells #[.int .i64 x.f0, .int .i64 x.f1, .string x.f2, .slice A x.f3.length c] 58)) (.cells #[.func (.func 99) #[] #[]] 169)
    simpa using this
  have HB0 := Aside0.mk B0
  have HK1 := Aside0.mk K1
  have HK2 := Aside0.mk K2
  clear hC hx ih B0 K1 K2
  go_enter Try.func98, Try.ntmps98
  go_wp2_with (go_at_call 99; refine (may_calls _ _ _ _ _ _ _).mono ?_; rintro e w5 ⟨rfl, hb5⟩; have c3 : w5.cell? ⟨w.heap.size, 3, none⟩ = some (.slice A x.f3.length c) := (blk_cell (blk_below HK1.out hb5) 3).trans rfl)
  refine (containsT_calls Hih.out x.f3 Hl.out A c _ _ (Kd.C_below HC.out (below_step HB0.out hb5)) (blk_below HK2.out hb5)).mono ?_
  rintro e w6 ⟨rfl, hb6⟩
  go_wp2_with fail
  go_ret
  exact ⟨by rw [HV.out]; simp, below_step (below_step HB0.out hb5) hb6⟩
theorem allAt (n : Nat) : AllAt n := by
  induction n with
  | zero => intro x hx; have := szT_eq x; omega
  | succ n ih =>
    intro x hx A c w hC
    cases hm : mayK x.f0 x.f1 x.f2 x.f3.length with
    | true => exact all_yes ih x hx A c w hC hm
    | false => exact all_no (n := n) x A c w hC hm
/-- what Check says -/
def chk (x : S58) : Int := if allM x = false then 2 else if 2000 < dpT x then 4 else if 20000 < szT x then 3 else 0
set_option maxHeartbeats 8000000 in
set_option maxRecDepth 100000 in
theorem chk_0 (x : S58) (hx : szT x ≤ 1000000) (A : Option Addr) (c : Nat) (w : World) (hC : Kd.C k58 w A x.f3.length x.f3) (h0 : allM x = false) :
    Calls Try.prog 74 #[.agg #[.int .i64 x.f0, .int .i64 x.f1, .string x.f2, .slice A x.f3.length c]] w fun e w' => e = .returned (.int .i64 (chk x)) ∧ Below w.heap.size w w' := by
  have HV : Aside0 (chk x = 2) := ⟨by unfold chk; simp [*]⟩
  have HC := Aside0.mk hC
  have Hx := Aside0.mk hx
  clear hC hx
  have HB0 := Aside0.mk (below_alloc (Below.refl w.heap.size w) (.cells #[.int .i64 x.f0, .int .i64 x.f1, .string x.f2, .slice A x.f3.length c] 58))
  have HK1 := Aside0.mk (heap_alloc_new w (.cells #[.int .i64 x.f0, .int .i64 x.f1, .string x.f2, .slice A x.f3.length c] 58))
  rw [HV.out]
  clear HV
  go_enter Try.func74, Try.ntmps74
  go_wp2_with (first | (go_at_call 98; refine (allAt 1000000 x Hx.out A c _ (Kd.C_below HC.out HB0.out)).mono ?_; rintro e w2 ⟨rfl, hb⟩; have b2 := Aside0.mk (below_step HB0.out hb); have k2 := Aside0.mk (blk_below HK1.out hb); clear hb; have c20 := (blk_cell k2.out 0).trans rfl; have c21 := (blk_cell k2.out 1).trans rfl; have c22 := (blk_cell k2.out 2).trans rfl; have c23 := (blk_cell k2.out 3).trans rfl) | (go_at_call 89; refine (deep_calls 1000000 (by omega) x Hx.out A c _ (Kd.C_below HC.out b2.out)).mono ?_; rintro e w3 ⟨rfl, hb⟩; have b3 := Aside0.mk (below_step b2.out hb); have k3 := Aside0.mk (blk_below k2.out hb); clear hb; have c30 := (blk_cell k3.out 0).trans rfl; have c31 := (blk_cell k3.out 1).trans rfl; have c32 := (blk_cell k3.out 2).trans rfl; have c33 := (blk_cell k3.out 3).trans rfl) | (go_at_call 79; refine (size_calls 1000000 (by omega) x Hx.out A c _ (Kd.C_below HC.out b3.out)).mono ?_; rintro e w4 ⟨rfl, hb⟩; have b4 := Aside0.mk (below_step b3.out hb)))
  go_ret
  exact ⟨rfl, by first | exact b4.out | exact b3.out | exact b2.out⟩
set_option maxHeartbeats 8000000 in
set_option maxRecDepth 100000 in
theorem chk_1 (x : S58) (hx : szT x ≤ 1000000) (A : Option Addr) (c : Nat) (w : World) (hC : Kd.C k58 w A x.f3.length x.f3) (h0 : allM x = true) (h1 : 2000 < dpT x) :
    Calls Try.prog 74 #[.agg #[.int .i64 x.f0, .int .i64 x.f1, .string x.f2, .slice A x.f3.length c]] w fun e w' => e = .returned (.int .i64 (chk x)) ∧ Below w.heap.size w w' := by
  have HV : Aside0 (chk x = 4) := ⟨by unfold chk; simp [*]⟩
  have d1 : decide (2000 < dpT x) = true := decide_eq_true h1
  have d2 : decide ((2000 : Int) < (dpT x : Int)) = true := decide_eq_true (by omega)
  have HC := Aside0.mk hC
  have Hx := Aside0.mk hx
  clear hC hx h1
  have HB0 := Aside0.mk (below_alloc (Below.refl w.heap.size w) (.cells #[.int .i64 x.f0, .int .i64 x.f1, .string x.f2, .slice A x.f3.length c] 58))
  have HK1 := Aside0.mk (heap_alloc_new w (.cells #[.int .i64 x.f0, .int .i64 x.f1, .string x.f2, .slice A x.f3.length c] 58))
  rw [HV.out]
  clear HV
  go_enter Try.func74, Try.ntmps74
  go_wp2_with (first | (go_at_call 98; refine (allAt 1000000 x Hx.out A c _ (Kd.C_below HC.out HB0.out)).mono ?_; rintro e w2 ⟨rfl, hb⟩; have b2 := Aside0.mk (below_step HB0.out hb); have k2 := Aside0.mk (blk_below HK1.out hb); clear hb; have c20 := (blk_cell k2.out 0).trans rfl; have c21 := (blk_cell k2.out 1).trans rfl; have c22 := (blk_cell k2.out 2).trans rfl; have c23 := (blk_cell k2.out 3).trans rfl) | (go_at_call 89; refine (deep_calls 1000000 (by omega) x Hx.out A c _ (Kd.C_below HC.out b2.out)).mono ?_; rintro e w3 ⟨rfl, hb⟩; have b3 := Aside0.mk (below_step b2.out hb); have k3 := Aside0.mk (blk_below k2.out hb); clear hb; have c30 := (blk_cell k3.out 0).trans rfl; have c31 := (blk_cell k3.out 1).trans rfl; have c32 := (blk_cell k3.out 2).trans rfl; have c33 := (blk_cell k3.out 3).trans rfl) | (go_at_call 79; refine (size_calls 1000000 (by omega) x Hx.out A c _ (Kd.C_below HC.out b3.out)).mono ?_; rintro e w4 ⟨rfl, hb⟩; have b4 := Aside0.mk (below_step b3.out hb)))
  go_ret
  exact ⟨rfl, by first | exact b4.out | exact b3.out | exact b2.out⟩
set_option maxHeartbeats 8000000 in
set_option maxRecDepth 100000 in
theorem chk_2 (x : S58) (hx : szT x ≤ 1000000) (A : Option Addr) (c : Nat) (w : World) (hC : Kd.C k58 w A x.f3.length x.f3) (h0 : allM x = true) (h1 : ¬ 2000 < dpT x) (h2 : 20000 < szT x) :
    Calls Try.prog 74 #[.agg #[.int .i64 x.f0, .int .i64 x.f1, .string x.f2, .slice A x.f3.length c]] w fun e w' => e = .returned (.int .i64 (chk x)) ∧ Below w.heap.size w w' := by
  have HV : Aside0 (chk x = 3) := ⟨by unfold chk; simp [*]⟩
  have d1 : decide (2000 < dpT x) = false := decide_eq_false h1
  have d2 : decide ((2000 : Int) < (dpT x : Int)) = false := decide_eq_false (by omega)
  have d3 : decide (20000 < szT x) = true := decide_eq_true h2
  have d4 : decide ((20000 : Int) < (szT x : Int)) = true := decide_eq_true (by omega)
  have HC := Aside0.mk hC
  have Hx := Aside0.mk hx
  clear hC hx h1
  have HB0 := Aside0.mk (below_alloc (Below.refl w.heap.size w) (.cells #[.int .i64 x.f0, .int .i64 x.f1, .string x.f2, .slice A x.f3.length c] 58))
  have HK1 := Aside0.mk (heap_alloc_new w (.cells #[.int .i64 x.f0, .int .i64 x.f1, .string x.f2, .slice A x.f3.length c] 58))
  rw [HV.out]
  clear HV
  go_enter Try.func74, Try.ntmps74
  go_wp2_with (first | (go_at_call 98; refine (allAt 1000000 x Hx.out A c _ (Kd.C_below HC.out HB0.out)).mono ?_; rintro e w2 ⟨rfl, hb⟩; have b2 := Aside0.mk (below_step HB0.out hb); have k2 := Aside0.mk (blk_below HK1.out hb); clear hb; have c20 := (blk_cell k2.out 0).trans rfl; have c21 := (blk_cell k2.out 1).trans rfl; have c22 := (blk_cell k2.out 2).trans rfl; have c23 := (blk_cell k2.out 3).trans rfl) | (go_at_call 89; refine (deep_calls 1000000 (by omega) x Hx.out A c _ (Kd.C_below HC.out b2.out)).mono ?_; rintro e w3 ⟨rfl, hb⟩; have b3 := Aside0.mk (below_step b2.out hb); have k3 := Aside0.mk (blk_below k2.out hb); clear hb; have c30 := (blk_cell k3.out 0).trans rfl; have c31 := (blk_cell k3.out 1).trans rfl; have c32 := (blk_cell k3.out 2).trans rfl; have c33 := (blk_cell k3.out 3).trans rfl) | (go_at_call 79; refine (size_calls 1000000 (by omega) x Hx.out A c _ (Kd.C_below HC.out b3.out)).mono ?_; rintro e w4 ⟨rfl, hb⟩; have b4 := Aside0.mk (below_step b3.out hb)))
  go_ret
  exact ⟨rfl, by first | exact b4.out | exact b3.out | exact b2.out⟩
set_option maxHeartbeats 8000000 in
set_option maxRecDepth 100000 in
theorem chk_3 (x : S58) (hx : szT x ≤ 1000000) (A : Option Addr) (c : Nat) (w : World) (hC : Kd.C k58 w A x.f3.length x.f3) (h0 : allM x = true) (h1 : ¬ 2000 < dpT x) (h2 : ¬ 20000 < szT x) :
    Calls Try.prog 74 #[.agg #[.int .i64 x.f0, .int .i64 x.f1, .string x.f2, .slice A x.f3.length c]] w fun e w' => e = .returned (.int .i64 (chk x)) ∧ Below w.heap.size w w' := by
  have HV : Aside0 (chk x = 0) := ⟨by unfold chk; simp [*]⟩
  have d1 : decide (2000 < dpT x) = false := decide_eq_false h1
  have d2 : decide ((2000 : Int) < (dpT x : Int)) = false := decide_eq_false (by omega)
  have d3 : decide (20000 < szT x) = false := decide_eq_false h2
  have d4 : decide ((20000 : Int) < (szT x : Int)) = false := decide_eq_false (by omega)
  have HC := Aside0.mk hC
  have Hx := Aside0.mk hx
  clear hC hx h1
  have HB0 := Aside0.mk (below_alloc (Below.refl w.heap.size w) (.cells #[.int .i64 x.f0, .int .i64 x.f1, .string x.f2, .slice A x.f3.length c] 58))
  have HK1 := Aside0.mk (heap_alloc_new w (.cells #[.int .i64 x.f0, .int .i64 x.f1, .string x.f2, .slice A x.f3.length c] 58))
  rw [HV.out]
  clear HV
  go_enter Try.func74, Try.ntmps74
  go_wp2_with (first | (go_at_call 98; refine (allAt 1000000 x Hx.out A c _ (Kd.C_below HC.out HB0.out)).mono ?_; rintro e w2 ⟨rfl, hb⟩; have b2 := Aside0.mk (below_step HB0.out hb); have k2 := Aside0.mk (blk_below HK1.out hb); clear hb; have c20 := (blk_cell k2.out 0).trans rfl; have c21 := (blk_cell k2.out 1).trans rfl; have c22 := (blk_cell k2.out 2).trans rfl; have c23 := (blk_cell k2.out 3).trans rfl) | (go_at_call 89; refine (deep_calls 1000000 (by omega) x Hx.out A c _ (Kd.C_below HC.out b2.out)).mono ?_; rintro e w3 ⟨rfl, hb⟩; have b3 := Aside0.mk (below_step b2.out hb); have k3 := Aside0.mk (blk_below k2.out hb); clear hb; have c30 := (blk_cell k3.out 0).trans rfl; have c31 := (blk_cell k3.out 1).trans rfl; have c32 := (blk_cell k3.out 2).trans rfl; have c33 := (blk_cell k3.out 3).trans rfl) | (go_at_call 79; refine (size_calls 1000000 (by omega) x Hx.out A c _ (Kd.C_below HC.out b3.out)).mono ?_; rintro e w4 ⟨rfl, hb⟩; have b4 := Aside0.mk (below_step b3.out hb)))
  go_ret
  exact ⟨rfl, by first | exact b4.out | exact b3.out | exact b2.out⟩
theorem chk_calls (x : S58) (hx : szT x ≤ 1000000) (A : Option Addr) (c : Nat) (w : World) (hC : Kd.C k58 w A x.f3.length x.f3) :
    Calls Try.prog 74 #[.agg #[.int .i64 x.f0, .int .i64 x.f1, .string x.f2, .slice A x.f3.length c]] w fun e w' => e = .returned (.int .i64 (chk x)) ∧ Below w.heap.size w w' := by
  cases h0 : allM x with
  | false => exact chk_0 x hx A c w hC h0
  | true =>
    by_cases h1 : 2000 < dpT x
    · exact chk_1 x hx A c w hC h0 h1
    by_cases h2 : 20000 < szT x
    · exact chk_2 x hx A c w hC h0 h1 h2
    · exact chk_3 x hx A c w hC h0 h1 h2
end Go.Proofs.Ythdnaliahdohhaa.H
