/- The law's examples hold (alive). -/
import Derived.Test.YthdnaliahdohhaaHHparts
namespace Go.Proofs.Ythdnaliahdohhaa.H
open Go.RowKit Go.Proofs.YthdnaliahdohhaaW.PrintWords Go.Proofs.YthdnaliahdohhaaW.PrintLast Go.Proofs.YthdnaliahdohhaaW.PrintMore Go.Proofs.Ythdnaliahdohhaa.Map Go.Proofs.Ythdnaliahdohhaa.Reg
attribute [local go_sem] max2_int min2_int max_two min_two max_three min_three max_four min_four
set_option linter.unusedVariables false
set_option linter.unusedSimpArgs false
theorem same_calls (x : S58) (hx : szT x ≤ 1000000) (A0 A1 : Option Addr) (c0 c1 : Nat) (w : World) (h0 : Kd.C k58 w A0 x.f3.length x.f3) (hc0 : x.f3.length ≤ c0) (h1 : Kd.C k58 w A1 x.f3.length x.f3) (hc1 : x.f3.length ≤ c1) :
    Calls Try.prog 35 #[.agg #[.int .i64 x.f0, .int .i64 x.f1, .string x.f2, .slice A0 x.f3.length c0], .agg #[.int .i64 x.f0, .int .i64 x.f1, .string x.f2, .slice A1 x.f3.length c1]] w fun e w' => e = .returned (.bool true) ∧ Below w.heap.size w w' := by
  obtain ⟨K, hK⟩ := same_ok 1000000 (by omega) x hx
  exact prolixref03_Same.calls K x.f0 x.f1 x.f2 A0 c0 x.f3 x.f0 x.f1 x.f2 A1 c1 x.f3 true w h0 hc0 h1 hc1 (hK K (Nat.le_refl _))
def tV : S58 := ⟨1, 0, ⟨#[]⟩, []⟩
def tA : S58 := ⟨3, 0, ⟨#[97]⟩, []⟩
def tI : S58 := ⟨2, 1, ⟨#[]⟩, []⟩
def tCallV : S58 := ⟨4, 0, ⟨#[99, 97, 108, 108]⟩, [tV]⟩
def tAnd (a b : S58) : S58 := ⟨4, 0, ⟨#[44]⟩, [a, b]⟩
theorem body1 : bodyR (tAnd tV tA) = (0, tAnd tCallV tA) := by kernel_rfl
theorem body2 : bodyR (tAnd tA tI) = (13, z58) := by kernel_rfl
theorem cl1 : clauseR (tCl tA tV) = ⟨tA, tCallV, 0, z58⟩ := by kernel_rfl
theorem kindC : kindV ⟨3, 0, ⟨#[33]⟩, []⟩ = 6 := by kernel_rfl
theorem Body_c {x y : S58} {n : Int} (h : bodyR x = (n, y)) (hx : szT x ≤ 400000) (A : Option Addr) (c : Nat) (w : World) (ok : Nat → Prop) (hok : ∀ q, ok q → q < w.heap.size) (hF : Kd.F k58 w ok A x.f3.length x.f3) (hc : x.f3.length ≤ c) :
    Calls Try.prog 42 #[.agg #[.int .i64 x.f0, .int .i64 x.f1, .string x.f2, .slice A x.f3.length c]] w fun e w' => ∃ A' c', e = .returned (.tuple #[.agg #[.int .i64 y.f0, .int .i64 y.f1, .string y.f2, .slice A' y.f3.length c'], .int .i64 n]) ∧ y.f3.length ≤ c' ∧ Kd.F k58 w' (fun k => ok k ∨ w.heap.size ≤ k) A' y.f3.length y.f3 ∧ Below w.heap.size w w' := by
  have := Body_calls x hx A c w ok hok hF hc
  unfold BodyP at this
  rw [h] at this
  exact this
theorem Clause_c {x h b u : S58} {n : Int} (hr : clauseR x = ⟨h, b, n, u⟩) (hx : szT x ≤ 400000) (A : Option Addr) (c : Nat) (w : World) (ok : Nat → Prop) (hok : ∀ q, ok q → q < w.heap.size) (hF : Kd.F k58 w ok A x.f3.length x.f3) (hc : x.f3.length ≤ c) :
    Calls Try.prog 32 #[.agg #[.int .i64 x.f0, .int .i64 x.f1, .string x.f2, .slice A x.f3.length c]] w fun e w' => ∃ A1 c1 A2 c2 A3 c3, e = .returned (.tuple #[.agg #[.int .i64 h.f0, .int .i64 h.f1, .string h.f2, .slice A1 h.f3.length c1], .agg #[.int .i64 b.f0, .int .i64 b.f1, .string b.f2, .slice A2 b.f3.length c2], .int .i64 n, .agg #[.int .i64 u.f0, .int .i64 u.f1, .string u.f2, .slice A3 u.f3.length c3]]) ∧ h.f3.length ≤ c1 ∧ b.f3.length ≤ c2 ∧ u.f3.length ≤ c3 ∧ Kd.F k58 w' (fun k => ok k ∨ w.heap.size ≤ k) A1 h.f3.length h.f3 ∧ Kd.F k58 w' (fun k => ok k ∨ w.heap.size ≤ k) A2 b.f3.length b.f3 ∧ Kd.F k58 w' (fun k => ok k ∨ w.heap.size ≤ k) A3 u.f3.length u.f3 ∧ Below w.heap.size w w' := by
  refine (clause_calls x hx A c w ok hok hF hc).mono ?_
  rintro e w' ⟨v1, v2, v3, he, h1, h2, h3, hb⟩
  rw [hr] at he h1 h2 h3
  obtain ⟨A1, c1, rfl, l1, F1⟩ := h1
  obtain ⟨A2, c2, rfl, l2, F2⟩ := h2
  obtain ⟨A3, c3, rfl, l3, F3⟩ := h3
  exact ⟨A1, c1, A2, c2, A3, c3, he, l1, l2, l3, F1, F2, F3, hb⟩
set_option maxHeartbeats 8000000 in
set_option maxRecDepth 100000 in
theorem alive_calls (w : World) :
    Calls Try.prog 30 #[] w fun e w' => e = .returned (.bool true) ∧ Below w.heap.size w w' := by
  have HB := Below.refl w.heap.size w
  go_enter Try.func30, Try.ntmps30
  replace HB := Aside0.mk HB
  go_wp2_with fail
  replace HB := HB.out
  refine (v_calls 0 _).mono ?_
  rintro e w1 ⟨rfl, hb⟩
  replace HB := below_step HB hb
  clear hb
  replace HB := Aside0.mk HB
  go_wp2_with fail
  replace HB := HB.out
  refine (a_calls _ _).mono ?_
  rintro e w2 ⟨rfl, hb⟩
  replace HB := below_step HB hb
  clear hb
  replace HB := Aside0.mk HB
  go_wp2_with fail
  replace HB := HB.out
  have hal : Below w2.heap.size w2 (w2.alloc (.cells #[.int .i64 1, .int .i64 0, .string ⟨#[]⟩, .slice none 0 0, .int .i64 3, .int .i64 0, .string ⟨#[97]⟩, .slice none 0 0] 58)) := below_alloc (Below.refl _ _) (.cells #[.int .i64 1, .int .i64 0, .string ⟨#[]⟩, .slice none 0 0, .int .i64 3, .int .i64 0, .string ⟨#[97]⟩, .slice none 0 0] 58)
  replace HB := below_step HB hal
  have B_L1 := heap_alloc_new w2 (.cells #[.int .i64 1, .int .i64 0, .string ⟨#[]⟩, .slice none 0 0, .int .i64 3, .int .i64 0, .string ⟨#[97]⟩, .slice none 0 0] 58)
  have hz : w2.heap.size = w2.heap.size + 0 := by rfl
  skip
  clear hz
  clear hal
  refine (f_calls _ _ _ _ _).mono ?_
  rintro e w3 ⟨rfl, hb⟩
  replace HB := below_step HB hb
  replace B_L1 := blk_below B_L1 hb
  have F_1 := lit2 (x := tV) (y := tA) (ok := fun _ => False) B_L1 (Nat.le_refl 0) (Kd.F_nil _ _ _) (Nat.le_refl 0) (Kd.F_nil _ _ _)
  clear hb
  clear B_L1
  replace HB := Aside0.mk HB
  replace F_1 := Aside0.mk F_1
  go_wp2_with fail
  replace HB := HB.out
  replace F_1 := F_1.out
  refine (Body_c body1 (by decide) (some ⟨w2.heap.size, 0, none⟩) 2 w3 (fun q => q < w3.heap.size) (fun _ h => h) (Kd.F_mono (Kd.F_bound F_1) (fun q hq => hq.2)) (Nat.le_refl 2)).mono ?_
  rintro e w4 ⟨A1, c1, rfl, hc1, F_Y, hb⟩
  replace HB := below_step HB hb
  replace F_1 := Kd.F_below F_1 hb
  clear F_1
  clear hb
  replace hc1 := Aside0.mk hc1
  replace HB := Aside0.mk HB
  replace F_Y := Aside0.mk F_Y
  go_wp2_with fail
  replace HB := HB.out
  replace F_Y := F_Y.out
  have hal : Below w4.heap.size w4 (w4.alloc (.cells #[.int .i64 (tAnd tCallV tA).f0, .int .i64 (tAnd tCallV tA).f1, .string (tAnd tCallV tA).f2, .slice A1 (tAnd tCallV tA).f3.length c1] 58)) := below_alloc (Below.refl _ _) (.cells #[.int .i64 (tAnd tCallV tA).f0, .int .i64 (tAnd tCallV tA).f1, .string (tAnd tCallV tA).f2, .slice A1 (tAnd tCallV tA).f3.length c1] 58)
  replace HB := below_step HB hal
  replace F_Y := Kd.F_below F_Y hal
  have B_Y := heap_alloc_new w4 (.cells #[.int .i64 (tAnd tCallV tA).f0, .int .i64 (tAnd tCallV tA).f1, .string (tAnd tCallV tA).f2, .slice A1 (tAnd tCallV tA).f3.length c1] 58)
  have hz : w4.heap.size = w4.heap.size + 0 := by rfl
  skip
  clear hz
  clear hal
  refine (a_calls _ _).mono ?_
  rintro e w5 ⟨rfl, hb⟩
  replace HB := below_step HB hb
  replace B_Y := blk_below B_Y hb
  replace F_Y := Kd.F_below F_Y hb
  clear hb
  replace HB := Aside0.mk HB
  replace B_Y := Aside0.mk B_Y
  replace F_Y := Aside0.mk F_Y
  go_wp2_with fail
  replace HB := HB.out
  replace B_Y := B_Y.out
  replace F_Y := F_Y.out
  have hal : Below w5.heap.size w5 (w5.alloc (.cells #[.int .i64 3, .int .i64 0, .string ⟨#[97]⟩, .slice none 0 0, .int .i64 2, .int .i64 1, .string ⟨#[]⟩, .slice none 0 0] 58)) := below_alloc (Below.refl _ _) (.cells #[.int .i64 3, .int .i64 0, .string ⟨#[97]⟩, .slice none 0 0, .int .i64 2, .int .i64 1, .string ⟨#[]⟩, .slice none 0 0] 58)
  replace HB := below_step HB hal
  replace B_Y := blk_below B_Y hal
  replace F_Y := Kd.F_below F_Y hal
  have B_L2 := heap_alloc_new w5 (.cells #[.int .i64 3, .int .i64 0, .string ⟨#[97]⟩, .slice none 0 0, .int .i64 2, .int .i64 1, .string ⟨#[]⟩, .slice none 0 0] 58)
  have hz : w5.heap.size = w5.heap.size + 0 := by rfl
  skip
  clear hz
  clear hal
  refine (f_calls _ _ _ _ _).mono ?_
  rintro e w6 ⟨rfl, hb⟩
  replace HB := below_step HB hb
  replace B_Y := blk_below B_Y hb
  replace B_L2 := blk_below B_L2 hb
  replace F_Y := Kd.F_below F_Y hb
  have F_1 := lit2 (x := tA) (y := tI) (ok := fun _ => False) B_L2 (Nat.le_refl 0) (Kd.F_nil _ _ _) (Nat.le_refl 0) (Kd.F_nil _ _ _)
  clear B_L2
  clear hb
  replace HB := Aside0.mk HB
  replace B_Y := Aside0.mk B_Y
  replace F_Y := Aside0.mk F_Y
  replace F_1 := Aside0.mk F_1
  go_wp2_with fail
  replace HB := HB.out
  replace B_Y := B_Y.out
  replace F_Y := F_Y.out
  replace F_1 := F_1.out
  refine (Body_c body2 (by decide) (some ⟨w5.heap.size, 0, none⟩) 2 w6 (fun q => q < w6.heap.size) (fun _ h => h) (Kd.F_mono (Kd.F_bound F_1) (fun q hq => hq.2)) (Nat.le_refl 2)).mono ?_
  rintro e w7 ⟨A2, c2, rfl, hc2, F_Z, hb⟩
  replace HB := below_step HB hb
  replace B_Y := blk_below B_Y hb
  replace F_Y := Kd.F_below F_Y hb
  replace F_1 := Kd.F_below F_1 hb
  clear F_1 F_Z hc2
  clear hb
  replace HB := Aside0.mk HB
  replace B_Y := Aside0.mk B_Y
  replace F_Y := Aside0.mk F_Y
  go_wp2_with fail
  replace HB := HB.out
  replace B_Y := B_Y.out
  replace F_Y := F_Y.out
  have hal : Below w7.heap.size w7 (w7.alloc (.cells #[.int .i64 z58.f0, .int .i64 z58.f1, .string z58.f2, .slice A2 z58.f3.length c2] 58)) := below_alloc (Below.refl _ _) (.cells #[.int .i64 z58.f0, .int .i64 z58.f1, .string z58.f2, .slice A2 z58.f3.length c2] 58)
  replace HB := below_step HB hal
  replace B_Y := blk_below B_Y hal
  replace F_Y := Kd.F_below F_Y hal
  have B_Z := heap_alloc_new w7 (.cells #[.int .i64 z58.f0, .int .i64 z58.f1, .string z58.f2, .slice A2 z58.f3.length c2] 58)
  have hz : w7.heap.size = w7.heap.size + 0 := by rfl
  skip
  clear hz
  clear hal
  refine (a_calls _ _).mono ?_
  rintro e w8 ⟨rfl, hb⟩
  replace HB := below_step HB hb
  replace B_Y := blk_below B_Y hb
  replace B_Z := blk_below B_Z hb
  replace F_Y := Kd.F_below F_Y hb
  clear hb
  replace HB := Aside0.mk HB
  replace B_Y := Aside0.mk B_Y
  replace B_Z := Aside0.mk B_Z
  replace F_Y := Aside0.mk F_Y
  go_wp2_with fail
  replace HB := HB.out
  replace B_Y := B_Y.out
  replace B_Z := B_Z.out
  replace F_Y := F_Y.out
  refine (v_calls 0 _).mono ?_
  rintro e w9 ⟨rfl, hb⟩
  replace HB := below_step HB hb
  replace B_Y := blk_below B_Y hb
  replace B_Z := blk_below B_Z hb
  replace F_Y := Kd.F_below F_Y hb
  clear hb
  replace HB := Aside0.mk HB
  replace B_Y := Aside0.mk B_Y
  replace B_Z := Aside0.mk B_Z
  replace F_Y := Aside0.mk F_Y
  go_wp2_with fail
  replace HB := HB.out
  replace B_Y := B_Y.out
  replace B_Z := B_Z.out
  replace F_Y := F_Y.out
  have hal : Below w9.heap.size w9 (w9.alloc (.cells #[.int .i64 3, .int .i64 0, .string ⟨#[97]⟩, .slice none 0 0, .int .i64 1, .int .i64 0, .string ⟨#[]⟩, .slice none 0 0] 58)) := below_alloc (Below.refl _ _) (.cells #[.int .i64 3, .int .i64 0, .string ⟨#[97]⟩, .slice none 0 0, .int .i64 1, .int .i64 0, .string ⟨#[]⟩, .slice none 0 0] 58)
  replace HB := below_step HB hal
  replace B_Y := blk_below B_Y hal
  replace B_Z := blk_below B_Z hal
  replace F_Y := Kd.F_below F_Y hal
  have B_L3 := heap_alloc_new w9 (.cells #[.int .i64 3, .int .i64 0, .string ⟨#[97]⟩, .slice none 0 0, .int .i64 1, .int .i64 0, .string ⟨#[]⟩, .slice none 0 0] 58)
  have hz : w9.heap.size = w9.heap.size + 0 := by rfl
  skip
  clear hz
  clear hal
  refine (f_calls _ _ _ _ _).mono ?_
  rintro e w10 ⟨rfl, hb⟩
  replace HB := below_step HB hb
  replace B_Y := blk_below B_Y hb
  replace B_Z := blk_below B_Z hb
  replace B_L3 := blk_below B_L3 hb
  replace F_Y := Kd.F_below F_Y hb
  have F_1 := lit2 (x := tA) (y := tV) (ok := fun _ => False) B_L3 (Nat.le_refl 0) (Kd.F_nil _ _ _) (Nat.le_refl 0) (Kd.F_nil _ _ _)
  clear B_L3
  clear hb
  replace HB := Aside0.mk HB
  replace B_Y := Aside0.mk B_Y
  replace B_Z := Aside0.mk B_Z
  replace F_Y := Aside0.mk F_Y
  replace F_1 := Aside0.mk F_1
  go_wp2_with fail
  replace HB := HB.out
  replace B_Y := B_Y.out
  replace B_Z := B_Z.out
  replace F_Y := F_Y.out
  replace F_1 := F_1.out
  refine (Clause_c cl1 (by decide) (some ⟨w9.heap.size, 0, none⟩) 2 w10 (fun q => q < w10.heap.size) (fun _ h => h) (Kd.F_mono (Kd.F_bound F_1) (fun q hq => hq.2)) (Nat.le_refl 2)).mono ?_
  rintro e w11 ⟨A5, c5, A6, c6, A8, c8, rfl, hc5, hc6, hc8, F_h, F_b, F_w, hb⟩
  replace HB := below_step HB hb
  replace B_Y := blk_below B_Y hb
  replace B_Z := blk_below B_Z hb
  replace F_Y := Kd.F_below F_Y hb
  replace F_1 := Kd.F_below F_1 hb
  clear F_1 F_w hc8
  replace hc5 := Aside0.mk hc5
  replace hc6 := Aside0.mk hc6
  clear hb
  replace HB := Aside0.mk HB
  replace B_Y := Aside0.mk B_Y
  replace B_Z := Aside0.mk B_Z
  replace F_Y := Aside0.mk F_Y
  replace F_h := Aside0.mk F_h
  replace F_b := Aside0.mk F_b
  go_wp2_with fail
  replace HB := HB.out
  replace B_Y := B_Y.out
  replace B_Z := B_Z.out
  replace F_Y := F_Y.out
  replace F_h := F_h.out
  replace F_b := F_b.out
  have hal : Below w11.heap.size w11 (((w11.alloc (.cells #[.int .i64 tA.f0, .int .i64 tA.f1, .string tA.f2, .slice A5 tA.f3.length c5] 58)).alloc (.cells #[.int .i64 tCallV.f0, .int .i64 tCallV.f1, .string tCallV.f2, .slice A6 tCallV.f3.length c6] 58)).alloc (.cells #[.int .i64 z58.f0, .int .i64 z58.f1, .string z58.f2, .slice A8 z58.f3.length c8] 58)) := below_alloc (below_alloc (below_alloc (Below.refl _ _) (.cells #[.int .i64 tA.f0, .int .i64 tA.f1, .string tA.f2, .slice A5 tA.f3.length c5] 58)) (.cells #[.int .i64 tCallV.f0, .int .i64 tCallV.f1, .string tCallV.f2, .slice A6 tCallV.f3.length c6] 58)) (.cells #[.int .i64 z58.f0, .int .i64 z58.f1, .string z58.f2, .slice A8 z58.f3.length c8] 58)
  replace HB := below_step HB hal
  replace B_Y := blk_below B_Y hal
  replace B_Z := blk_below B_Z hal
  replace F_Y := Kd.F_below F_Y hal
  replace F_h := Kd.F_below F_h hal
  replace F_b := Kd.F_below F_b hal
  have B_h := blk_alloc (blk_alloc (heap_alloc_new w11 (.cells #[.int .i64 tA.f0, .int .i64 tA.f1, .string tA.f2, .slice A5 tA.f3.length c5] 58)) (.cells #[.int .i64 tCallV.f0, .int .i64 tCallV.f1, .string tCallV.f2, .slice A6 tCallV.f3.length c6] 58)) (.cells #[.int .i64 z58.f0, .int .i64 z58.f1, .string z58.f2, .slice A8 z58.f3.length c8] 58)
  have hz : w11.heap.size = w11.heap.size + 0 := by rfl
  skip
  clear hz
  have B_b := blk_alloc (heap_alloc_new (w11.alloc (.cells #[.int .i64 tA.f0, .int .i64 tA.f1, .string tA.f2, .slice A5 tA.f3.length c5] 58)) (.cells #[.int .i64 tCallV.f0, .int .i64 tCallV.f1, .string tCallV.f2, .slice A6 tCallV.f3.length c6] 58)) (.cells #[.int .i64 z58.f0, .int .i64 z58.f1, .string z58.f2, .slice A8 z58.f3.length c8] 58)
  have hz : (w11.alloc (.cells #[.int .i64 tA.f0, .int .i64 tA.f1, .string tA.f2, .slice A5 tA.f3.length c5] 58)).heap.size = w11.heap.size + 1 := by simp only [al_sz]
  rw [hz] at B_b
  clear hz
  have B_u := heap_alloc_new ((w11.alloc (.cells #[.int .i64 tA.f0, .int .i64 tA.f1, .string tA.f2, .slice A5 tA.f3.length c5] 58)).alloc (.cells #[.int .i64 tCallV.f0, .int .i64 tCallV.f1, .string tCallV.f2, .slice A6 tCallV.f3.length c6] 58)) (.cells #[.int .i64 z58.f0, .int .i64 z58.f1, .string z58.f2, .slice A8 z58.f3.length c8] 58)
  have hz : ((w11.alloc (.cells #[.int .i64 tA.f0, .int .i64 tA.f1, .string tA.f2, .slice A5 tA.f3.length c5] 58)).alloc (.cells #[.int .i64 tCallV.f0, .int .i64 tCallV.f1, .string tCallV.f2, .slice A6 tCallV.f3.length c6] 58)).heap.size = w11.heap.size + 2 := by simp only [al_sz]
  rw [hz] at B_u
  clear hz
  clear hal
  generalize (((w11.alloc (.cells #[.int .i64 tA.f0, .int .i64 tA.f1, .string tA.f2, .slice A5 tA.f3.length c5] 58)).alloc (.cells #[.int .i64 tCallV.f0, .int .i64 tCallV.f1, .string tCallV.f2, .slice A6 tCallV.f3.length c6] 58)).alloc (.cells #[.int .i64 z58.f0, .int .i64 z58.f1, .string z58.f2, .slice A8 z58.f3.length c8] 58)) = y0 at *
  clear B_Z B_u
  refine start_ (n := 38) (S := fun w' => w'.cell? ⟨w4.heap.size, 0, none⟩ = some (.int .i64 (tAnd tCallV tA).f0) ∧ w'.cell? ⟨w4.heap.size, 1, none⟩ = some (.int .i64 (tAnd tCallV tA).f1) ∧ w'.cell? ⟨w4.heap.size, 2, none⟩ = some (.string (tAnd tCallV tA).f2) ∧ w'.cell? ⟨w4.heap.size, 3, none⟩ = some (.slice A1 (tAnd tCallV tA).f3.length c1) ∧ w'.cell? ⟨w11.heap.size, 0, none⟩ = some (.int .i64 tA.f0) ∧ w'.cell? ⟨w11.heap.size, 1, none⟩ = some (.int .i64 tA.f1) ∧ w'.cell? ⟨w11.heap.size, 2, none⟩ = some (.string tA.f2) ∧ w'.cell? ⟨w11.heap.size, 3, none⟩ = some (.slice A5 tA.f3.length c5) ∧ w'.cell? ⟨w11.heap.size + 1, 0, none⟩ = some (.int .i64 tCallV.f0) ∧ w'.cell? ⟨w11.heap.size + 1, 1, none⟩ = some (.int .i64 tCallV.f1) ∧ w'.cell? ⟨w11.heap.size + 1, 2, none⟩ = some (.string tCallV.f2) ∧ w'.cell? ⟨w11.heap.size + 1, 3, none⟩ = some (.slice A6 tCallV.f3.length c6)) (ds := []) #[false, false, false, false, false, false, false, false, false, false, false, false, false, false, false, false, false, false, false, false, false, false, false, false, false, false, false, false, false, false, false, false, false, false, false, false, false, false] (by kernel_rfl) rfl rfl ⟨(blk_cell (blk_drew B_Y) 0).trans rfl, (blk_cell (blk_drew B_Y) 1).trans rfl, (blk_cell (blk_drew B_Y) 2).trans rfl, (blk_cell (blk_drew B_Y) 3).trans rfl, (blk_cell (blk_drew B_h) 0).trans rfl, (blk_cell (blk_drew B_h) 1).trans rfl, (blk_cell (blk_drew B_h) 2).trans rfl, (blk_cell (blk_drew B_h) 3).trans rfl, (blk_cell (blk_drew B_b) 0).trans rfl, (blk_cell (blk_drew B_b) 1).trans rfl, (blk_cell (blk_drew B_b) 2).trans rfl, (blk_cell (blk_drew B_b) 3).trans rfl⟩ (fun hHeld => ?_)
  replace B_Y := blk_drew B_Y
  replace B_h := blk_drew B_h
  replace B_b := blk_drew B_b
  replace HB := HB.drew
  replace F_Y := Kd.F_drew F_Y
  replace F_h := Kd.F_drew F_h
  replace F_b := Kd.F_drew F_b
  generalize y0.drew = x0 at *
  refine pure_ (i := 0) (N := some 35) (v := ?_) (a' := ?_) #[true, false, false, false, false, false, false, false, false, false, false, false, false, false, false, false, false, false, false, false, false, false, false, false, false, false, false, false, false, false, false, false, false, false, false, false, false, false] rfl rfl (by kernel_rfl) (fun _ _ _ h => h) (Or.inl ⟨by rfl, ?_⟩) ?_ ?_
  rotate_left
  · intro w'
    go_simp
    with_reducible rfl
  rotate_left
  · simp only [Act.put, List.setIfInBounds_toArray, List.set_cons_zero, List.set_cons_succ, i64_w, i32_w]
    rfl
  refine pure_ (i := 1) (N := some 36) (v := ?_) (a' := ?_) #[true, true, false, false, false, false, false, false, false, false, false, false, false, false, false, false, false, false, false, false, false, false, false, false, false, false, false, false, false, false, false, false, false, false, false, false, false, false] rfl rfl (by kernel_rfl) (fun _ _ _ h => h) (Or.inl ⟨by rfl, ?_⟩) ?_ ?_
  rotate_left
  · intro w'
    go_simp
    with_reducible rfl
  rotate_left
  · simp only [Act.put, List.setIfInBounds_toArray, List.set_cons_zero, List.set_cons_succ, i64_w, i32_w]
    rfl
  refine pure_ (i := 2) (N := some 37) (v := ?_) (a' := ?_) #[true, true, true, false, false, false, false, false, false, false, false, false, false, false, false, false, false, false, false, false, false, false, false, false, false, false, false, false, false, false, false, false, false, false, false, false, false, false] rfl rfl (by kernel_rfl) (fun _ _ _ h => h) (Or.inl ⟨by rfl, ?_⟩) ?_ ?_
  rotate_left
  · intro w'
    go_simp
    with_reducible rfl
  rotate_left
  · simp only [Act.put, List.setIfInBounds_toArray, List.set_cons_zero, List.set_cons_succ, i64_w, i32_w]
    rfl
  refine take_ (i := 3) (N := some 38) (v := ?_) (a' := ?_) #[true, true, true, true, false, false, false, false, false, false, false, false, false, false, false, false, false, false, false, false, false, false, false, false, false, false, false, false, false, false, false, false, false, false, false, false, false, false] rfl rfl (by kernel_rfl) (fun _ _ _ h => h) (Or.inl ⟨by rfl, ?_⟩) hHeld ?_ ?_
  rotate_left
  · rintro w' ⟨s0, s1, s2, s3, s4, s5, s6, s7, s8, s9, s10, s11⟩
    go_simp
    with_reducible rfl
  rotate_left
  · simp only [Act.put, List.setIfInBounds_toArray, List.set_cons_zero, List.set_cons_succ, i64_w, i32_w]
    rfl
  refine one_ (i := 4) (N := some 39) #[true, true, true, true, true, false, false, false, false, false, false, false, false, false, false, false, false, false, false, false, false, false, false, false, false, false, false, false, false, false, false, false, false, false, false, false, false, false] rfl rfl (by kernel_rfl) (by decide) (fun K hK => ?_)
  refine goes_ Try.func72 (by kernel_rfl) rfl #[.int .i64 0] (by rfl) rfl rfl (by (try simp only [List.map_toArray, List.map_cons, List.map_nil]); first | done | rfl) ?_
  refine (v_calls 0 _).mono ?_
  rintro e x1 ⟨rfl, hb⟩
  refine ⟨_, rfl, ?_⟩
  replace HB := below_step HB hb
  replace B_Y := blk_below B_Y hb
  replace B_h := blk_below B_h hb
  replace B_b := blk_below B_b hb
  replace F_Y := Kd.F_below F_Y hb
  replace F_h := Kd.F_below F_h hb
  replace F_b := Kd.F_below F_b hb
  clear hb
  refine hK.out _ _ ⟨(blk_cell B_Y 0).trans rfl, (blk_cell B_Y 1).trans rfl, (blk_cell B_Y 2).trans rfl, (blk_cell B_Y 3).trans rfl, (blk_cell B_h 0).trans rfl, (blk_cell B_h 1).trans rfl, (blk_cell B_h 2).trans rfl, (blk_cell B_h 3).trans rfl, (blk_cell B_b 0).trans rfl, (blk_cell B_b 1).trans rfl, (blk_cell B_b 2).trans rfl, (blk_cell B_b 3).trans rfl⟩ (fun hHeld => ?_)
  clear hK K
  refine norm_ (a' := ?_) ?_ ?_
  rotate_left
  · show Act.put _ (some 39) _ = _
    simp only [Act.put, List.setIfInBounds_toArray, List.set_cons_zero, List.set_cons_succ, i64_w, i32_w]
    rfl
  refine one_ (i := 5) (N := some 40) #[true, true, true, true, true, true, false, false, false, false, false, false, false, false, false, false, false, false, false, false, false, false, false, false, false, false, false, false, false, false, false, false, false, false, false, false, false, false] rfl rfl (by kernel_rfl) (by decide) (fun K hK => ?_)
  refine value_ (w1 := ?_) (v := ?_) (by rfl) rfl ?_ ?_
  rotate_left 2
  · go_simp
    constructor
    · rfl
    · rfl
  have hal := below_alloc (Below.refl x1.heap.size x1) (.cells #[.int .i64 1, .int .i64 0, .string ⟨#[]⟩, .slice none 0 0] 58)
  replace HB := below_step HB hal
  replace B_Y := blk_below B_Y hal
  replace B_h := blk_below B_h hal
  replace B_b := blk_below B_b hal
  replace F_Y := Kd.F_below F_Y hal
  replace F_h := Kd.F_below F_h hal
  replace F_b := Kd.F_below F_b hal
  have B_L4 := heap_alloc_new x1 (.cells #[.int .i64 1, .int .i64 0, .string ⟨#[]⟩, .slice none 0 0] 58)
  clear hal
  refine hK.out _ _ ⟨(blk_cell B_Y 0).trans rfl, (blk_cell B_Y 1).trans rfl, (blk_cell B_Y 2).trans rfl, (blk_cell B_Y 3).trans rfl, (blk_cell B_h 0).trans rfl, (blk_cell B_h 1).trans rfl, (blk_cell B_h 2).trans rfl, (blk_cell B_h 3).trans rfl, (blk_cell B_b 0).trans rfl, (blk_cell B_b 1).trans rfl, (blk_cell B_b 2).trans rfl, (blk_cell B_b 3).trans rfl⟩ (fun hHeld => ?_)
  clear hK K
  refine norm_ (a' := ?_) ?_ ?_
  rotate_left
  · show Act.put _ (some 40) _ = _
    simp only [Act.put, List.setIfInBounds_toArray, List.set_cons_zero, List.set_cons_succ, i64_w, i32_w]
    rfl
  refine one_ (i := 6) (N := some 41) #[true, true, true, true, true, true, true, false, false, false, false, false, false, false, false, false, false, false, false, false, false, false, false, false, false, false, false, false, false, false, false, false, false, false, false, false, false, false] rfl rfl (by kernel_rfl) (by decide) (fun K hK => ?_)
  refine goes_ Try.func34 (by kernel_rfl) rfl #[.string ⟨#[99, 97, 108, 108]⟩, .slice (some ⟨x1.heap.size, 0, none⟩) 1 1] (by rfl) rfl rfl (by (try simp only [List.map_toArray, List.map_cons, List.map_nil]); first | done | rfl) ?_
  refine (f_calls _ _ _ _ _).mono ?_
  rintro e x2 ⟨rfl, hb⟩
  refine ⟨_, rfl, ?_⟩
  replace HB := below_step HB hb
  replace B_Y := blk_below B_Y hb
  replace B_h := blk_below B_h hb
  replace B_b := blk_below B_b hb
  replace B_L4 := blk_below B_L4 hb
  replace F_Y := Kd.F_below F_Y hb
  replace F_h := Kd.F_below F_h hb
  replace F_b := Kd.F_below F_b hb
  have F_4 := lit1 (x := tV) (ok := fun _ => False) B_L4 (Nat.le_refl 0) (Kd.F_nil _ _ _)
  clear hb
  refine hK.out _ _ ⟨(blk_cell B_Y 0).trans rfl, (blk_cell B_Y 1).trans rfl, (blk_cell B_Y 2).trans rfl, (blk_cell B_Y 3).trans rfl, (blk_cell B_h 0).trans rfl, (blk_cell B_h 1).trans rfl, (blk_cell B_h 2).trans rfl, (blk_cell B_h 3).trans rfl, (blk_cell B_b 0).trans rfl, (blk_cell B_b 1).trans rfl, (blk_cell B_b 2).trans rfl, (blk_cell B_b 3).trans rfl⟩ (fun hHeld => ?_)
  clear hK K
  refine norm_ (a' := ?_) ?_ ?_
  rotate_left
  · show Act.put _ (some 41) _ = _
    simp only [Act.put, List.setIfInBounds_toArray, List.set_cons_zero, List.set_cons_succ, i64_w, i32_w]
    rfl
  clear B_L4
  refine one_ (i := 7) (N := some 42) #[true, true, true, true, true, true, true, true, false, false, false, false, false, false, false, false, false, false, false, false, false, false, false, false, false, false, false, false, false, false, false, false, false, false, false, false, false, false] rfl rfl (by kernel_rfl) (by decide) (fun K hK => ?_)
  refine goes_ Try.func73 (by kernel_rfl) rfl #[.string ⟨#[97]⟩] (by rfl) rfl rfl (by (try simp only [List.map_toArray, List.map_cons, List.map_nil]); first | done | rfl) ?_
  refine (a_calls _ _).mono ?_
  rintro e x3 ⟨rfl, hb⟩
  refine ⟨_, rfl, ?_⟩
  replace HB := below_step HB hb
  replace B_Y := blk_below B_Y hb
  replace B_h := blk_below B_h hb
  replace B_b := blk_below B_b hb
  replace F_Y := Kd.F_below F_Y hb
  replace F_h := Kd.F_below F_h hb
  replace F_b := Kd.F_below F_b hb
  replace F_4 := Kd.F_below F_4 hb
  clear hb
  refine hK.out _ _ ⟨(blk_cell B_Y 0).trans rfl, (blk_cell B_Y 1).trans rfl, (blk_cell B_Y 2).trans rfl, (blk_cell B_Y 3).trans rfl, (blk_cell B_h 0).trans rfl, (blk_cell B_h 1).trans rfl, (blk_cell B_h 2).trans rfl, (blk_cell B_h 3).trans rfl, (blk_cell B_b 0).trans rfl, (blk_cell B_b 1).trans rfl, (blk_cell B_b 2).trans rfl, (blk_cell B_b 3).trans rfl⟩ (fun hHeld => ?_)
  clear hK K
  refine norm_ (a' := ?_) ?_ ?_
  rotate_left
  · show Act.put _ (some 42) _ = _
    simp only [Act.put, List.setIfInBounds_toArray, List.set_cons_zero, List.set_cons_succ, i64_w, i32_w]
    rfl
  refine one_ (i := 8) (N := some 43) #[true, true, true, true, true, true, true, true, true, false, false, false, false, false, false, false, false, false, false, false, false, false, false, false, false, false, false, false, false, false, false, false, false, false, false, false, false, false] rfl rfl (by kernel_rfl) (by decide) (fun K hK => ?_)
  refine value_ (w1 := ?_) (v := ?_) (by rfl) rfl ?_ ?_
  rotate_left 2
  · go_simp
    constructor
    · rfl
    · rfl
  have hal := below_alloc (Below.refl x3.heap.size x3) (.cells #[.int .i64 4, .int .i64 0, .string ⟨#[99, 97, 108, 108]⟩, .slice (some ⟨x1.heap.size, 0, none⟩) 1 1, .int .i64 3, .int .i64 0, .string ⟨#[97]⟩, .slice none 0 0] 58)
  replace HB := below_step HB hal
  replace B_Y := blk_below B_Y hal
  replace B_h := blk_below B_h hal
  replace B_b := blk_below B_b hal
  replace F_Y := Kd.F_below F_Y hal
  replace F_h := Kd.F_below F_h hal
  replace F_b := Kd.F_below F_b hal
  replace F_4 := Kd.F_below F_4 hal
  have B_L5 := heap_alloc_new x3 (.cells #[.int .i64 4, .int .i64 0, .string ⟨#[99, 97, 108, 108]⟩, .slice (some ⟨x1.heap.size, 0, none⟩) 1 1, .int .i64 3, .int .i64 0, .string ⟨#[97]⟩, .slice none 0 0] 58)
  clear hal
  refine hK.out _ _ ⟨(blk_cell B_Y 0).trans rfl, (blk_cell B_Y 1).trans rfl, (blk_cell B_Y 2).trans rfl, (blk_cell B_Y 3).trans rfl, (blk_cell B_h 0).trans rfl, (blk_cell B_h 1).trans rfl, (blk_cell B_h 2).trans rfl, (blk_cell B_h 3).trans rfl, (blk_cell B_b 0).trans rfl, (blk_cell B_b 1).trans rfl, (blk_cell B_b 2).trans rfl, (blk_cell B_b 3).trans rfl⟩ (fun hHeld => ?_)
  clear hK K
  refine norm_ (a' := ?_) ?_ ?_
  rotate_left
  · show Act.put _ (some 43) _ = _
    simp only [Act.put, List.setIfInBounds_toArray, List.set_cons_zero, List.set_cons_succ, i64_w, i32_w]
    rfl
  refine one_ (i := 9) (N := some 44) #[true, true, true, true, true, true, true, true, true, true, false, false, false, false, false, false, false, false, false, false, false, false, false, false, false, false, false, false, false, false, false, false, false, false, false, false, false, false] rfl rfl (by kernel_rfl) (by decide) (fun K hK => ?_)
  refine goes_ Try.func34 (by kernel_rfl) rfl #[.string ⟨#[44]⟩, .slice (some ⟨x3.heap.size, 0, none⟩) 2 2] (by rfl) rfl rfl (by (try simp only [List.map_toArray, List.map_cons, List.map_nil]); first | done | rfl) ?_
  refine (f_calls _ _ _ _ _).mono ?_
  rintro e x4 ⟨rfl, hb⟩
  refine ⟨_, rfl, ?_⟩
  replace HB := below_step HB hb
  replace B_Y := blk_below B_Y hb
  replace B_h := blk_below B_h hb
  replace B_b := blk_below B_b hb
  replace B_L5 := blk_below B_L5 hb
  replace F_Y := Kd.F_below F_Y hb
  replace F_h := Kd.F_below F_h hb
  replace F_b := Kd.F_below F_b hb
  replace F_4 := Kd.F_below F_4 hb
  have F_5 := lit2 (x := tCallV) (y := tA) B_L5 (Nat.le_refl 1) F_4 (Nat.le_refl 0) (Kd.F_nil _ _ _)
  clear hb
  refine hK.out _ _ ⟨(blk_cell B_Y 0).trans rfl, (blk_cell B_Y 1).trans rfl, (blk_cell B_Y 2).trans rfl, (blk_cell B_Y 3).trans rfl, (blk_cell B_h 0).trans rfl, (blk_cell B_h 1).trans rfl, (blk_cell B_h 2).trans rfl, (blk_cell B_h 3).trans rfl, (blk_cell B_b 0).trans rfl, (blk_cell B_b 1).trans rfl, (blk_cell B_b 2).trans rfl, (blk_cell B_b 3).trans rfl⟩ (fun hHeld => ?_)
  clear hK K
  refine norm_ (a' := ?_) ?_ ?_
  rotate_left
  · show Act.put _ (some 44) _ = _
    simp only [Act.put, List.setIfInBounds_toArray, List.set_cons_zero, List.set_cons_succ, i64_w, i32_w]
    rfl
  clear B_L5
  clear F_4
  refine one_ (i := 10) (N := some 45) #[true, true, true, true, true, true, true, true, true, true, true, false, false, false, false, false, false, false, false, false, false, false, false, false, false, false, false, false, false, false, false, false, false, false, false, false, false, false] rfl rfl (by kernel_rfl) (by decide) (fun K hK => ?_)
  refine goes_ Try.func35 (by kernel_rfl) rfl #[.agg #[.int .i64 (tAnd tCallV tA).f0, .int .i64 (tAnd tCallV tA).f1, .string (tAnd tCallV tA).f2, .slice A1 (tAnd tCallV tA).f3.length c1], .agg #[.int .i64 (tAnd tCallV tA).f0, .int .i64 (tAnd tCallV tA).f1, .string (tAnd tCallV tA).f2, .slice (some ⟨x3.heap.size, 0, none⟩) (tAnd tCallV tA).f3.length 2]] (by rfl) rfl rfl (by (try simp only [List.map_toArray, List.map_cons, List.map_nil]); first | done | rfl) ?_
  refine (same_calls (tAnd tCallV tA) (by decide) _ _ _ _ _ (Kd.F_now F_Y) hc1.out (Kd.F_now F_5) (Nat.le_refl 2)).mono ?_
  rintro e x5 ⟨rfl, hb⟩
  refine ⟨_, rfl, ?_⟩
  replace HB := below_step HB hb
  replace B_Y := blk_below B_Y hb
  replace B_h := blk_below B_h hb
  replace B_b := blk_below B_b hb
  replace F_Y := Kd.F_below F_Y hb
  replace F_h := Kd.F_below F_h hb
  replace F_b := Kd.F_below F_b hb
  replace F_5 := Kd.F_below F_5 hb
  clear hb
  refine hK.out _ _ ⟨(blk_cell B_Y 0).trans rfl, (blk_cell B_Y 1).trans rfl, (blk_cell B_Y 2).trans rfl, (blk_cell B_Y 3).trans rfl, (blk_cell B_h 0).trans rfl, (blk_cell B_h 1).trans rfl, (blk_cell B_h 2).trans rfl, (blk_cell B_h 3).trans rfl, (blk_cell B_b 0).trans rfl, (blk_cell B_b 1).trans rfl, (blk_cell B_b 2).trans rfl, (blk_cell B_b 3).trans rfl⟩ (fun hHeld => ?_)
  clear hK K
  refine norm_ (a' := ?_) ?_ ?_
  rotate_left
  · show Act.put _ (some 45) _ = _
    simp only [Act.put, List.setIfInBounds_toArray, List.set_cons_zero, List.set_cons_succ, i64_w, i32_w]
    rfl
  clear F_5
  clear F_Y
  refine pure_ (i := 11) (N := some 46) (v := ?_) (a' := ?_) #[true, true, true, true, true, true, true, true, true, true, true, true, false, false, false, false, false, false, false, false, false, false, false, false, false, false, false, false, false, false, false, false, false, false, false, false, false, false] rfl rfl (by kernel_rfl) (fun _ _ _ h => h) (Or.inl ⟨by rfl, ?_⟩) ?_ ?_
  rotate_left
  · intro w'
    go_simp
    with_reducible rfl
  rotate_left
  · simp only [Act.put, List.setIfInBounds_toArray, List.set_cons_zero, List.set_cons_succ, i64_w, i32_w]
    rfl
  refine pure_ (i := 12) (N := some 47) (v := ?_) (a' := ?_) #[true, true, true, true, true, true, true, true, true, true, true, true, true, false, false, false, false, false, false, false, false, false, false, false, false, false, false, false, false, false, false, false, false, false, false, false, false, false] rfl rfl (by kernel_rfl) (fun _ _ _ h => h) (Or.inl ⟨by rfl, ?_⟩) ?_ ?_
  rotate_left
  · intro w'
    go_simp
    with_reducible rfl
  rotate_left
  · simp only [Act.put, List.setIfInBounds_toArray, List.set_cons_zero, List.set_cons_succ, i64_w, i32_w]
    rfl
  refine pure_ (i := 13) (N := some 48) (v := ?_) (a' := ?_) #[true, true, true, true, true, true, true, true, true, true, true, true, true, true, false, false, false, false, false, false, false, false, false, false, false, false, false, false, false, false, false, false, false, false, false, false, false, false] rfl rfl (by kernel_rfl) (fun _ _ _ h => h) (Or.inl ⟨by rfl, ?_⟩) ?_ ?_
  rotate_left
  · intro w'
    go_simp
    with_reducible rfl
  rotate_left
  · simp only [Act.put, List.setIfInBounds_toArray, List.set_cons_zero, List.set_cons_succ, i64_w, i32_w]
    rfl
  refine pure_ (i := 14) (N := some 49) (v := ?_) (a' := ?_) #[true, true, true, true, true, true, true, true, true, true, true, true, true, true, true, false, false, false, false, false, false, false, false, false, false, false, false, false, false, false, false, false, false, false, false, false, false, false] rfl rfl (by kernel_rfl) (fun _ _ _ h => h) (Or.inl ⟨by rfl, ?_⟩) ?_ ?_
  rotate_left
  · intro w'
    go_simp
    with_reducible rfl
  rotate_left
  · simp only [Act.put, List.setIfInBounds_toArray, List.set_cons_zero, List.set_cons_succ, i64_w, i32_w]
    rfl
  refine pure_ (i := 15) (N := some 50) (v := ?_) (a' := ?_) #[true, true, true, true, true, true, true, true, true, true, true, true, true, true, true, true, false, false, false, false, false, false, false, false, false, false, false, false, false, false, false, false, false, false, false, false, false, false] rfl rfl (by kernel_rfl) (fun _ _ _ h => h) (Or.inl ⟨by rfl, ?_⟩) ?_ ?_
  rotate_left
  · intro w'
    go_simp
    with_reducible rfl
  rotate_left
  · simp only [Act.put, List.setIfInBounds_toArray, List.set_cons_zero, List.set_cons_succ, i64_w, i32_w]
    rfl
  refine pure_ (i := 16) (N := some 51) (v := ?_) (a' := ?_) #[true, true, true, true, true, true, true, true, true, true, true, true, true, true, true, true, true, false, false, false, false, false, false, false, false, false, false, false, false, false, false, false, false, false, false, false, false, false] rfl rfl (by kernel_rfl) (fun _ _ _ h => h) (Or.inl ⟨by rfl, ?_⟩) ?_ ?_
  rotate_left
  · intro w'
    go_simp
    with_reducible rfl
  rotate_left
  · simp only [Act.put, List.setIfInBounds_toArray, List.set_cons_zero, List.set_cons_succ, i64_w, i32_w]
    rfl
  refine pure_ (i := 17) (N := some 52) (v := ?_) (a' := ?_) #[true, true, true, true, true, true, true, true, true, true, true, true, true, true, true, true, true, true, false, false, false, false, false, false, false, false, false, false, false, false, false, false, false, false, false, false, false, false] rfl rfl (by kernel_rfl) (fun _ _ _ h => h) (Or.inl ⟨by rfl, ?_⟩) ?_ ?_
  rotate_left
  · intro w'
    go_simp
    with_reducible rfl
  rotate_left
  · simp only [Act.put, List.setIfInBounds_toArray, List.set_cons_zero, List.set_cons_succ, i64_w, i32_w]
    rfl
  refine pure_ (i := 18) (N := some 53) (v := ?_) (a' := ?_) #[true, true, true, true, true, true, true, true, true, true, true, true, true, true, true, true, true, true, true, false, false, false, false, false, false, false, false, false, false, false, false, false, false, false, false, false, false, false] rfl rfl (by kernel_rfl) (fun _ _ _ h => h) (Or.inl ⟨by rfl, ?_⟩) ?_ ?_
  rotate_left
  · intro w'
    go_simp
    with_reducible rfl
  rotate_left
  · simp only [Act.put, List.setIfInBounds_toArray, List.set_cons_zero, List.set_cons_succ, i64_w, i32_w]
    rfl
  refine pure_ (i := 19) (N := some 54) (v := ?_) (a' := ?_) #[true, true, true, true, true, true, true, true, true, true, true, true, true, true, true, true, true, true, true, true, false, false, false, false, false, false, false, false, false, false, false, false, false, false, false, false, false, false] rfl rfl (by kernel_rfl) (fun _ _ _ h => h) (Or.inl ⟨by rfl, ?_⟩) ?_ ?_
  rotate_left
  · intro w'
    go_simp
    with_reducible rfl
  rotate_left
  · simp only [Act.put, List.setIfInBounds_toArray, List.set_cons_zero, List.set_cons_succ, i64_w, i32_w]
    rfl
  refine pure_ (i := 20) (N := some 55) (v := ?_) (a' := ?_) #[true, true, true, true, true, true, true, true, true, true, true, true, true, true, true, true, true, true, true, true, true, false, false, false, false, false, false, false, false, false, false, false, false, false, false, false, false, false] rfl rfl (by kernel_rfl) (fun _ _ _ h => h) (Or.inl ⟨by rfl, ?_⟩) ?_ ?_
  rotate_left
  · intro w'
    go_simp
    with_reducible rfl
  rotate_left
  · simp only [Act.put, List.setIfInBounds_toArray, List.set_cons_zero, List.set_cons_succ, i64_w, i32_w]
    rfl
  refine take_ (i := 21) (N := some 56) (v := ?_) (a' := ?_) #[true, true, true, true, true, true, true, true, true, true, true, true, true, true, true, true, true, true, true, true, true, true, false, false, false, false, false, false, false, false, false, false, false, false, false, false, false, false] rfl rfl (by kernel_rfl) (fun _ _ _ h => h) (Or.inl ⟨by rfl, ?_⟩) hHeld ?_ ?_
  rotate_left
  · rintro w' ⟨s0, s1, s2, s3, s4, s5, s6, s7, s8, s9, s10, s11⟩
    go_simp
    with_reducible rfl
  rotate_left
  · simp only [Act.put, List.setIfInBounds_toArray, List.set_cons_zero, List.set_cons_succ, i64_w, i32_w]
    rfl
  refine one_ (i := 22) (N := some 57) #[true, true, true, true, true, true, true, true, true, true, true, true, true, true, true, true, true, true, true, true, true, true, true, false, false, false, false, false, false, false, false, false, false, false, false, false, false, false] rfl rfl (by kernel_rfl) (by decide) (fun K hK => ?_)
  refine goes_ Try.func73 (by kernel_rfl) rfl #[.string ⟨#[97]⟩] (by rfl) rfl rfl (by (try simp only [List.map_toArray, List.map_cons, List.map_nil]); first | done | rfl) ?_
  refine (a_calls _ _).mono ?_
  rintro e x6 ⟨rfl, hb⟩
  refine ⟨_, rfl, ?_⟩
  replace HB := below_step HB hb
  replace B_Y := blk_below B_Y hb
  replace B_h := blk_below B_h hb
  replace B_b := blk_below B_b hb
  replace F_h := Kd.F_below F_h hb
  replace F_b := Kd.F_below F_b hb
  clear hb
  refine hK.out _ _ ⟨(blk_cell B_Y 0).trans rfl, (blk_cell B_Y 1).trans rfl, (blk_cell B_Y 2).trans rfl, (blk_cell B_Y 3).trans rfl, (blk_cell B_h 0).trans rfl, (blk_cell B_h 1).trans rfl, (blk_cell B_h 2).trans rfl, (blk_cell B_h 3).trans rfl, (blk_cell B_b 0).trans rfl, (blk_cell B_b 1).trans rfl, (blk_cell B_b 2).trans rfl, (blk_cell B_b 3).trans rfl⟩ (fun hHeld => ?_)
  clear hK K
  refine norm_ (a' := ?_) ?_ ?_
  rotate_left
  · show Act.put _ (some 57) _ = _
    simp only [Act.put, List.setIfInBounds_toArray, List.set_cons_zero, List.set_cons_succ, i64_w, i32_w]
    rfl
  refine one_ (i := 23) (N := some 58) #[true, true, true, true, true, true, true, true, true, true, true, true, true, true, true, true, true, true, true, true, true, true, true, true, false, false, false, false, false, false, false, false, false, false, false, false, false, false] rfl rfl (by kernel_rfl) (by decide) (fun K hK => ?_)
  refine goes_ Try.func35 (by kernel_rfl) rfl #[.agg #[.int .i64 tA.f0, .int .i64 tA.f1, .string tA.f2, .slice A5 tA.f3.length c5], .agg #[.int .i64 tA.f0, .int .i64 tA.f1, .string tA.f2, .slice none tA.f3.length 0]] (by rfl) rfl rfl (by (try simp only [List.map_toArray, List.map_cons, List.map_nil]); first | done | rfl) ?_
  refine (same_calls tA (by decide) _ _ _ _ _ (Kd.F_now F_h) hc5.out (Kd.F_now (Kd.F_nil _ _ (fun _ => False))) (Nat.le_refl 0)).mono ?_
  rintro e x7 ⟨rfl, hb⟩
  refine ⟨_, rfl, ?_⟩
  replace HB := below_step HB hb
  replace B_Y := blk_below B_Y hb
  replace B_h := blk_below B_h hb
  replace B_b := blk_below B_b hb
  replace F_h := Kd.F_below F_h hb
  replace F_b := Kd.F_below F_b hb
  clear hb
  refine hK.out _ _ ⟨(blk_cell B_Y 0).trans rfl, (blk_cell B_Y 1).trans rfl, (blk_cell B_Y 2).trans rfl, (blk_cell B_Y 3).trans rfl, (blk_cell B_h 0).trans rfl, (blk_cell B_h 1).trans rfl, (blk_cell B_h 2).trans rfl, (blk_cell B_h 3).trans rfl, (blk_cell B_b 0).trans rfl, (blk_cell B_b 1).trans rfl, (blk_cell B_b 2).trans rfl, (blk_cell B_b 3).trans rfl⟩ (fun hHeld => ?_)
  clear hK K
  refine norm_ (a' := ?_) ?_ ?_
  rotate_left
  · show Act.put _ (some 58) _ = _
    simp only [Act.put, List.setIfInBounds_toArray, List.set_cons_zero, List.set_cons_succ, i64_w, i32_w]
    rfl
  clear F_h
  refine pure_ (i := 24) (N := some 59) (v := ?_) (a' := ?_) #[true, true, true, true, true, true, true, true, true, true, true, true, true, true, true, true, true, true, true, true, true, true, true, true, true, false, false, false, false, false, false, false, false, false, false, false, false, false] rfl rfl (by kernel_rfl) (fun _ _ _ h => h) (Or.inl ⟨by rfl, ?_⟩) ?_ ?_
  rotate_left
  · intro w'
    go_simp
    with_reducible rfl
  rotate_left
  · simp only [Act.put, List.setIfInBounds_toArray, List.set_cons_zero, List.set_cons_succ, i64_w, i32_w]
    rfl
  refine pure_ (i := 25) (N := some 60) (v := ?_) (a' := ?_) #[true, true, true, true, true, true, true, true, true, true, true, true, true, true, true, true, true, true, true, true, true, true, true, true, true, true, false, false, false, false, false, false, false, false, false, false, false, false] rfl rfl (by kernel_rfl) (fun _ _ _ h => h) (Or.inl ⟨by rfl, ?_⟩) ?_ ?_
  rotate_left
  · intro w'
    go_simp
    with_reducible rfl
  rotate_left
  · simp only [Act.put, List.setIfInBounds_toArray, List.set_cons_zero, List.set_cons_succ, i64_w, i32_w]
    rfl
  refine take_ (i := 26) (N := some 61) (v := ?_) (a' := ?_) #[true, true, true, true, true, true, true, true, true, true, true, true, true, true, true, true, true, true, true, true, true, true, true, true, true, true, true, false, false, false, false, false, false, false, false, false, false, false] rfl rfl (by kernel_rfl) (fun _ _ _ h => h) (Or.inl ⟨by rfl, ?_⟩) hHeld ?_ ?_
  rotate_left
  · rintro w' ⟨s0, s1, s2, s3, s4, s5, s6, s7, s8, s9, s10, s11⟩
    go_simp
    with_reducible rfl
  rotate_left
  · simp only [Act.put, List.setIfInBounds_toArray, List.set_cons_zero, List.set_cons_succ, i64_w, i32_w]
    rfl
  refine one_ (i := 27) (N := some 62) #[true, true, true, true, true, true, true, true, true, true, true, true, true, true, true, true, true, true, true, true, true, true, true, true, true, true, true, true, false, false, false, false, false, false, false, false, false, false] rfl rfl (by kernel_rfl) (by decide) (fun K hK => ?_)
  refine goes_ Try.func72 (by kernel_rfl) rfl #[.int .i64 0] (by rfl) rfl rfl (by (try simp only [List.map_toArray, List.map_cons, List.map_nil]); first | done | rfl) ?_
  refine (v_calls 0 _).mono ?_
  rintro e x8 ⟨rfl, hb⟩
  refine ⟨_, rfl, ?_⟩
  replace HB := below_step HB hb
  replace B_Y := blk_below B_Y hb
  replace B_h := blk_below B_h hb
  replace B_b := blk_below B_b hb
  replace F_b := Kd.F_below F_b hb
  clear hb
  refine hK.out _ _ ⟨(blk_cell B_Y 0).trans rfl, (blk_cell B_Y 1).trans rfl, (blk_cell B_Y 2).trans rfl, (blk_cell B_Y 3).trans rfl, (blk_cell B_h 0).trans rfl, (blk_cell B_h 1).trans rfl, (blk_cell B_h 2).trans rfl, (blk_cell B_h 3).trans rfl, (blk_cell B_b 0).trans rfl, (blk_cell B_b 1).trans rfl, (blk_cell B_b 2).trans rfl, (blk_cell B_b 3).trans rfl⟩ (fun hHeld => ?_)
  clear hK K
  refine norm_ (a' := ?_) ?_ ?_
  rotate_left
  · show Act.put _ (some 62) _ = _
    simp only [Act.put, List.setIfInBounds_toArray, List.set_cons_zero, List.set_cons_succ, i64_w, i32_w]
    rfl
  refine one_ (i := 28) (N := some 63) #[true, true, true, true, true, true, true, true, true, true, true, true, true, true, true, true, true, true, true, true, true, true, true, true, true, true, true, true, true, false, false, false, false, false, false, false, false, false] rfl rfl (by kernel_rfl) (by decide) (fun K hK => ?_)
  refine value_ (w1 := ?_) (v := ?_) (by rfl) rfl ?_ ?_
  rotate_left 2
  · go_simp
    constructor
    · rfl
    · rfl
  have hal := below_alloc (Below.refl x8.heap.size x8) (.cells #[.int .i64 1, .int .i64 0, .string ⟨#[]⟩, .slice none 0 0] 58)
  replace HB := below_step HB hal
  replace B_Y := blk_below B_Y hal
  replace B_h := blk_below B_h hal
  replace B_b := blk_below B_b hal
  replace F_b := Kd.F_below F_b hal
  have B_L6 := heap_alloc_new x8 (.cells #[.int .i64 1, .int .i64 0, .string ⟨#[]⟩, .slice none 0 0] 58)
  clear hal
  refine hK.out _ _ ⟨(blk_cell B_Y 0).trans rfl, (blk_cell B_Y 1).trans rfl, (blk_cell B_Y 2).trans rfl, (blk_cell B_Y 3).trans rfl, (blk_cell B_h 0).trans rfl, (blk_cell B_h 1).trans rfl, (blk_cell B_h 2).trans rfl, (blk_cell B_h 3).trans rfl, (blk_cell B_b 0).trans rfl, (blk_cell B_b 1).trans rfl, (blk_cell B_b 2).trans rfl, (blk_cell B_b 3).trans rfl⟩ (fun hHeld => ?_)
  clear hK K
  refine norm_ (a' := ?_) ?_ ?_
  rotate_left
  · show Act.put _ (some 63) _ = _
    simp only [Act.put, List.setIfInBounds_toArray, List.set_cons_zero, List.set_cons_succ, i64_w, i32_w]
    rfl
  refine one_ (i := 29) (N := some 64) #[true, true, true, true, true, true, true, true, true, true, true, true, true, true, true, true, true, true, true, true, true, true, true, true, true, true, true, true, true, true, false, false, false, false, false, false, false, false] rfl rfl (by kernel_rfl) (by decide) (fun K hK => ?_)
  refine goes_ Try.func34 (by kernel_rfl) rfl #[.string ⟨#[99, 97, 108, 108]⟩, .slice (some ⟨x8.heap.size, 0, none⟩) 1 1] (by rfl) rfl rfl (by (try simp only [List.map_toArray, List.map_cons, List.map_nil]); first | done | rfl) ?_
  refine (f_calls _ _ _ _ _).mono ?_
  rintro e x9 ⟨rfl, hb⟩
  refine ⟨_, rfl, ?_⟩
  replace HB := below_step HB hb
  replace B_Y := blk_below B_Y hb
  replace B_h := blk_below B_h hb
  replace B_b := blk_below B_b hb
  replace B_L6 := blk_below B_L6 hb
  replace F_b := Kd.F_below F_b hb
  have F_6 := lit1 (x := tV) (ok := fun _ => False) B_L6 (Nat.le_refl 0) (Kd.F_nil _ _ _)
  clear hb
  refine hK.out _ _ ⟨(blk_cell B_Y 0).trans rfl, (blk_cell B_Y 1).trans rfl, (blk_cell B_Y 2).trans rfl, (blk_cell B_Y 3).trans rfl, (blk_cell B_h 0).trans rfl, (blk_cell B_h 1).trans rfl, (blk_cell B_h 2).trans rfl, (blk_cell B_h 3).trans rfl, (blk_cell B_b 0).trans rfl, (blk_cell B_b 1).trans rfl, (blk_cell B_b 2).trans rfl, (blk_cell B_b 3).trans rfl⟩ (fun hHeld => ?_)
  clear hK K
  refine norm_ (a' := ?_) ?_ ?_
  rotate_left
  · show Act.put _ (some 64) _ = _
    simp only [Act.put, List.setIfInBounds_toArray, List.set_cons_zero, List.set_cons_succ, i64_w, i32_w]
    rfl
  clear B_L6
  refine one_ (i := 30) (N := some 65) #[true, true, true, true, true, true, true, true, true, true, true, true, true, true, true, true, true, true, true, true, true, true, true, true, true, true, true, true, true, true, true, false, false, false, false, false, false, false] rfl rfl (by kernel_rfl) (by decide) (fun K hK => ?_)
  refine goes_ Try.func35 (by kernel_rfl) rfl #[.agg #[.int .i64 tCallV.f0, .int .i64 tCallV.f1, .string tCallV.f2, .slice A6 tCallV.f3.length c6], .agg #[.int .i64 tCallV.f0, .int .i64 tCallV.f1, .string tCallV.f2, .slice (some ⟨x8.heap.size, 0, none⟩) tCallV.f3.length 1]] (by rfl) rfl rfl (by (try simp only [List.map_toArray, List.map_cons, List.map_nil]); first | done | rfl) ?_
  refine (same_calls tCallV (by decide) _ _ _ _ _ (Kd.F_now F_b) hc6.out (Kd.F_now F_6) (Nat.le_refl 1)).mono ?_
  rintro e x10 ⟨rfl, hb⟩
  refine ⟨_, rfl, ?_⟩
  replace HB := below_step HB hb
  replace B_Y := blk_below B_Y hb
  replace B_h := blk_below B_h hb
  replace B_b := blk_below B_b hb
  replace F_b := Kd.F_below F_b hb
  replace F_6 := Kd.F_below F_6 hb
  clear hb
  refine hK.out _ _ ⟨(blk_cell B_Y 0).trans rfl, (blk_cell B_Y 1).trans rfl, (blk_cell B_Y 2).trans rfl, (blk_cell B_Y 3).trans rfl, (blk_cell B_h 0).trans rfl, (blk_cell B_h 1).trans rfl, (blk_cell B_h 2).trans rfl, (blk_cell B_h 3).trans rfl, (blk_cell B_b 0).trans rfl, (blk_cell B_b 1).trans rfl, (blk_cell B_b 2).trans rfl, (blk_cell B_b 3).trans rfl⟩ (fun hHeld => ?_)
  clear hK K
  refine norm_ (a' := ?_) ?_ ?_
  rotate_left
  · show Act.put _ (some 65) _ = _
    simp only [Act.put, List.setIfInBounds_toArray, List.set_cons_zero, List.set_cons_succ, i64_w, i32_w]
    rfl
  clear F_b
  clear F_6
  refine pure_ (i := 31) (N := some 66) (v := ?_) (a' := ?_) #[true, true, true, true, true, true, true, true, true, true, true, true, true, true, true, true, true, true, true, true, true, true, true, true, true, true, true, true, true, true, true, true, false, false, false, false, false, false] rfl rfl (by kernel_rfl) (fun _ _ _ h => h) (Or.inl ⟨by rfl, ?_⟩) ?_ ?_
  rotate_left
  · intro w'
    go_simp
    with_reducible rfl
  rotate_left
  · simp only [Act.put, List.setIfInBounds_toArray, List.set_cons_zero, List.set_cons_succ, i64_w, i32_w]
    rfl
  refine pure_ (i := 32) (N := some 67) (v := ?_) (a' := ?_) #[true, true, true, true, true, true, true, true, true, true, true, true, true, true, true, true, true, true, true, true, true, true, true, true, true, true, true, true, true, true, true, true, true, false, false, false, false, false] rfl rfl (by kernel_rfl) (fun _ _ _ h => h) (Or.inl ⟨by rfl, ?_⟩) ?_ ?_
  rotate_left
  · intro w'
    go_simp
    with_reducible rfl
  rotate_left
  · simp only [Act.put, List.setIfInBounds_toArray, List.set_cons_zero, List.set_cons_succ, i64_w, i32_w]
    rfl
  refine one_ (i := 33) (N := some 68) #[true, true, true, true, true, true, true, true, true, true, true, true, true, true, true, true, true, true, true, true, true, true, true, true, true, true, true, true, true, true, true, true, true, true, false, false, false, false] rfl rfl (by kernel_rfl) (by decide) (fun K hK => ?_)
  refine goes_ Try.func73 (by kernel_rfl) rfl #[.string ⟨#[33]⟩] (by rfl) rfl rfl (by (try simp only [List.map_toArray, List.map_cons, List.map_nil]); first | done | rfl) ?_
  refine (a_calls _ _).mono ?_
  rintro e x11 ⟨rfl, hb⟩
  refine ⟨_, rfl, ?_⟩
  replace HB := below_step HB hb
  replace B_Y := blk_below B_Y hb
  replace B_h := blk_below B_h hb
  replace B_b := blk_below B_b hb
  clear hb
  refine hK.out _ _ ⟨(blk_cell B_Y 0).trans rfl, (blk_cell B_Y 1).trans rfl, (blk_cell B_Y 2).trans rfl, (blk_cell B_Y 3).trans rfl, (blk_cell B_h 0).trans rfl, (blk_cell B_h 1).trans rfl, (blk_cell B_h 2).trans rfl, (blk_cell B_h 3).trans rfl, (blk_cell B_b 0).trans rfl, (blk_cell B_b 1).trans rfl, (blk_cell B_b 2).trans rfl, (blk_cell B_b 3).trans rfl⟩ (fun hHeld => ?_)
  clear hK K
  refine norm_ (a' := ?_) ?_ ?_
  rotate_left
  · show Act.put _ (some 68) _ = _
    simp only [Act.put, List.setIfInBounds_toArray, List.set_cons_zero, List.set_cons_succ, i64_w, i32_w]
    rfl
  refine one_ (i := 34) (N := some 69) #[true, true, true, true, true, true, true, true, true, true, true, true, true, true, true, true, true, true, true, true, true, true, true, true, true, true, true, true, true, true, true, true, true, true, true, false, false, false] rfl rfl (by kernel_rfl) (by decide) (fun K hK => ?_)
  refine goes_ Try.func36 (by kernel_rfl) rfl #[.agg #[.int .i64 3, .int .i64 0, .string ⟨#[33]⟩, .slice none 0 0]] (by rfl) rfl rfl (by (try simp only [List.map_toArray, List.map_cons, List.map_nil]); first | done | rfl) ?_
  refine (kind_calls ⟨3, 0, ⟨#[33]⟩, []⟩ none 0 _).mono ?_
  rintro e x12 ⟨rfl, hb⟩
  refine ⟨_, rfl, ?_⟩
  replace HB := below_step HB hb
  replace B_Y := blk_below B_Y hb
  replace B_h := blk_below B_h hb
  replace B_b := blk_below B_b hb
  clear hb
  refine hK.out _ _ ⟨(blk_cell B_Y 0).trans rfl, (blk_cell B_Y 1).trans rfl, (blk_cell B_Y 2).trans rfl, (blk_cell B_Y 3).trans rfl, (blk_cell B_h 0).trans rfl, (blk_cell B_h 1).trans rfl, (blk_cell B_h 2).trans rfl, (blk_cell B_h 3).trans rfl, (blk_cell B_b 0).trans rfl, (blk_cell B_b 1).trans rfl, (blk_cell B_b 2).trans rfl, (blk_cell B_b 3).trans rfl⟩ (fun hHeld => ?_)
  clear hK K
  refine norm_ (a' := ?_) ?_ ?_
  rotate_left
  · show Act.put _ (some 69) _ = _
    simp only [Act.put, List.setIfInBounds_toArray, List.set_cons_zero, List.set_cons_succ, i64_w, i32_w]
    rfl
  rw [kindC]
  refine pure_ (i := 35) (N := some 70) (v := ?_) (a' := ?_) #[true, true, true, true, true, true, true, true, true, true, true, true, true, true, true, true, true, true, true, true, true, true, true, true, true, true, true, true, true, true, true, true, true, true, true, true, false, false] rfl rfl (by kernel_rfl) (fun _ _ _ h => h) (Or.inl ⟨by rfl, ?_⟩) ?_ ?_
  rotate_left
  · intro w'
    go_simp
    with_reducible rfl
  rotate_left
  · simp only [Act.put, List.setIfInBounds_toArray, List.set_cons_zero, List.set_cons_succ, i64_w, i32_w]
    rfl
  refine pure_ (i := 36) (N := some 71) (v := ?_) (a' := ?_) #[true, true, true, true, true, true, true, true, true, true, true, true, true, true, true, true, true, true, true, true, true, true, true, true, true, true, true, true, true, true, true, true, true, true, true, true, true, false] rfl rfl (by kernel_rfl) (fun _ _ _ h => h) (Or.inl ⟨by rfl, ?_⟩) ?_ ?_
  rotate_left
  · intro w'
    go_simp
    with_reducible rfl
  rotate_left
  · simp only [Act.put, List.setIfInBounds_toArray, List.set_cons_zero, List.set_cons_succ, i64_w, i32_w]
    rfl
  refine pure_ (i := 37) (N := some 0) (v := ?_) (a' := ?_) #[true, true, true, true, true, true, true, true, true, true, true, true, true, true, true, true, true, true, true, true, true, true, true, true, true, true, true, true, true, true, true, true, true, true, true, true, true, true] rfl rfl (by kernel_rfl) (fun _ _ _ h => h) (Or.inl ⟨by rfl, ?_⟩) ?_ ?_
  rotate_left
  · intro w'
    go_simp
    with_reducible rfl
  rotate_left
  · simp only [Act.put, List.setIfInBounds_toArray, List.set_cons_zero, List.set_cons_succ, i64_w, i32_w]
    rfl
  refine done_ (by kernel_rfl) ?_
  replace HB := Aside0.mk HB
  go_wp2_with fail
  go_ret
  exact ⟨rfl, HB.out⟩
end Go.Proofs.Ythdnaliahdohhaa.H
