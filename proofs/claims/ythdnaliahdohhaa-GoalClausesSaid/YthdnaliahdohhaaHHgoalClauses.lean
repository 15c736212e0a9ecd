/- GoalClauses: the walk. -/
import Derived.Test.YthdnaliahdohhaaHHalive
namespace Go.Proofs.Ythdnaliahdohhaa.H
open Go.RowKit Go.Proofs.YthdnaliahdohhaaW.PrintWords Go.Proofs.YthdnaliahdohhaaW.PrintLast Go.Proofs.YthdnaliahdohhaaW.PrintMore Go.Proofs.Ythdnaliahdohhaa.Map Go.Proofs.Ythdnaliahdohhaa.Reg
attribute [local go_sem] max2_int min2_int max_two min_two max_three min_three max_four min_four
set_option linter.unusedVariables false
set_option linter.unusedSimpArgs false
theorem tCl_sz (h b : S58) : szT (tCl h b) = szT h + szT b + 1 := by simp [tCl, szT, szL]
theorem clause_u (t : S58) : (clauseR t).e = 0 → (clauseR t).w = z58 := by
  intro h0
  by_cases hc : chk t = 0
  · rw [clauseR_of hc] at h0 ⊢
    generalize (clauseHB t).1 = h at *
    generalize (clauseHB t).2 = b at *
    unfold clauseHBR at h0 ⊢
    by_cases c1 : h.f0 = 1
    · rw [if_pos c1]
    by_cases c2 : h.f0 = 2
    · rw [if_neg c1, if_pos c2] at h0; simp at h0
    rw [if_neg c1, if_neg c2] at h0 ⊢
    dsimp only at h0 ⊢
    by_cases c3 : (bodyR b).1 = 0
    · rw [if_pos c3]
    · rw [if_neg c3] at h0 ⊢
      by_cases c4 : (bodyR b).1 = 13
      · rw [if_pos c4] at h0; simp at h0
      · rw [if_neg c4]
  · unfold clauseR; rw [if_neg hc]
set_option maxHeartbeats 8000000 in
set_option maxRecDepth 100000 in
theorem cl_great (l : List S146) (A : Option Addr) (c : Nat) (w : World) (hC : Kd.C k146 w A l.length l) (hc : l.length ≤ c) (hg : 60 < l.length) :
    Calls Try.prog 7 #[.slice A l.length c] w fun e w' => e = .returned (.bool true) ∧ Below w.heap.size w w' := by
  have HB := Below.refl w.heap.size w
  replace hC := Aside0.mk hC
  replace hc := Aside0.mk hc
  have HG : Aside0 (decide (60 < l.length) = true) := ⟨by simpa using hg⟩
  replace hg := Aside0.mk hg
  go_enter Try.func7, Try.ntmps7
  replace HB := Aside0.mk HB
  go_wp2_with fail
  replace HB := HB.out
  refine (alive_calls _).mono ?_
  rintro e w1 ⟨rfl, hb⟩
  replace HB := below_step HB hb
  clear hb
  replace HB := Aside0.mk HB
  go_wp2_with fail
  replace HB := HB.out
  refine (great_calls l A c _).mono ?_
  rintro e w2 ⟨rfl, hb⟩
  replace HB := below_step HB hb
  rw [HG.out]
  clear hb
  replace HB := Aside0.mk HB
  go_wp2_with fail
  replace HB := HB.out
  go_ret
  exact ⟨rfl, HB⟩
set_option maxHeartbeats 8000000 in
set_option maxRecDepth 100000 in
theorem cl_err13 (l : List S146) (A : Option Addr) (c : Nat) (w : World) (hC : Kd.C k146 w A l.length l) (hc : l.length ≤ c) (hg : ¬ 60 < l.length) (t : S58) (hgood : ∀ (A : Option Addr) (c : Nat) (w : World), Kd.C k146 w A l.length l → l.length ≤ c → Calls Try.prog 33 #[.slice A l.length c] w (RetT t w)) (hs : szT t ≤ 500) (h b u : S58) (n : Int) (hr : clauseR t = ⟨h, b, n, u⟩) (hn : n = 13) (h0 : h.f0 = 0) (h1 : b.f0 = 0) (h2 : ¬ u.f0 = 0) :
    Calls Try.prog 7 #[.slice A l.length c] w fun e w' => e = .returned (.bool true) ∧ Below w.heap.size w w' := by
  have e1 : (h.f0 == 0) = true := by simpa using h0
  have e2 : (b.f0 == 0) = true := by simpa using h1
  subst hn
  have e3 : (u.f0 == 0) = false := by simpa using h2
  have e4 : (u.f0 != 0) = true := by simpa using h2
  clear h0 h1 h2
  replace hgood := Aside0.mk hgood
  replace hs := Aside0.mk hs
  have HB := Below.refl w.heap.size w
  replace hC := Aside0.mk hC
  replace hc := Aside0.mk hc
  have HG : Aside0 (decide (60 < l.length) = false) := ⟨by simpa using hg⟩
  replace hg := Aside0.mk hg
  go_enter Try.func7, Try.ntmps7
  replace HB := Aside0.mk HB
  go_wp2_with fail
  replace HB := HB.out
  refine (alive_calls _).mono ?_
  rintro e w1 ⟨rfl, hb⟩
  replace HB := below_step HB hb
  clear hb
  replace HB := Aside0.mk HB
  go_wp2_with fail
  replace HB := HB.out
  refine (great_calls l A c _).mono ?_
  rintro e w2 ⟨rfl, hb⟩
  replace HB := below_step HB hb
  rw [HG.out]
  clear hb
  replace HB := Aside0.mk HB
  go_wp2_with fail
  replace HB := HB.out
  have hC2 := Kd.C_below hC.out HB
  refine (hgood.out A c _ hC2 hc.out).mono ?_
  rintro e w3 ⟨At, ct, rfl, hct, F_t, hb⟩
  replace HB := below_step HB hb
  clear hC2
  replace hct := Aside0.mk hct
  clear hb
  replace HB := Aside0.mk HB
  replace F_t := Aside0.mk F_t
  go_wp2_with fail
  replace HB := HB.out
  replace F_t := F_t.out
  refine (Clause_c hr (by have := hs.out; omega) At ct w3 (fun q => q < w3.heap.size) (fun _ h => h) (Kd.F_mono (Kd.F_bound F_t) (fun q hq => hq.2)) hct.out).mono ?_
  rintro e w4 ⟨A1, c1, A2, c2, A3, c3, rfl, hc1, hc2, hc3, F_h, F_b, F_u, hb⟩
  replace HB := below_step HB hb
  replace F_t := Kd.F_below F_t hb
  clear F_t F_u hct
  replace hc1 := Aside0.mk hc1
  replace hc2 := Aside0.mk hc2
  replace hc3 := Aside0.mk hc3
  clear hb
  have hal : Below w4.heap.size w4 (((w4.alloc (.cells #[.int .i64 h.f0, .int .i64 h.f1, .string h.f2, .slice A1 h.f3.length c1] 58)).alloc (.cells #[.int .i64 b.f0, .int .i64 b.f1, .string b.f2, .slice A2 b.f3.length c2] 58)).alloc (.cells #[.int .i64 u.f0, .int .i64 u.f1, .string u.f2, .slice A3 u.f3.length c3] 58)) := below_alloc (below_alloc (below_alloc (Below.refl _ _) (.cells #[.int .i64 h.f0, .int .i64 h.f1, .string h.f2, .slice A1 h.f3.length c1] 58)) (.cells #[.int .i64 b.f0, .int .i64 b.f1, .string b.f2, .slice A2 b.f3.length c2] 58)) (.cells #[.int .i64 u.f0, .int .i64 u.f1, .string u.f2, .slice A3 u.f3.length c3] 58)
  replace HB := below_step HB hal
  replace F_h := Kd.F_below F_h hal
  replace F_b := Kd.F_below F_b hal
  have B_3 := blk_alloc (blk_alloc (heap_alloc_new w4 (.cells #[.int .i64 h.f0, .int .i64 h.f1, .string h.f2, .slice A1 h.f3.length c1] 58)) (.cells #[.int .i64 b.f0, .int .i64 b.f1, .string b.f2, .slice A2 b.f3.length c2] 58)) (.cells #[.int .i64 u.f0, .int .i64 u.f1, .string u.f2, .slice A3 u.f3.length c3] 58)
  have hz : w4.heap.size = w4.heap.size + 0 := by rfl
  skip
  clear hz
  have B_4 := blk_alloc (heap_alloc_new (w4.alloc (.cells #[.int .i64 h.f0, .int .i64 h.f1, .string h.f2, .slice A1 h.f3.length c1] 58)) (.cells #[.int .i64 b.f0, .int .i64 b.f1, .string b.f2, .slice A2 b.f3.length c2] 58)) (.cells #[.int .i64 u.f0, .int .i64 u.f1, .string u.f2, .slice A3 u.f3.length c3] 58)
  have hz : (w4.alloc (.cells #[.int .i64 h.f0, .int .i64 h.f1, .string h.f2, .slice A1 h.f3.length c1] 58)).heap.size = w4.heap.size + 1 := by simp only [al_sz]
  rw [hz] at B_4
  clear hz
  have B_6 := heap_alloc_new ((w4.alloc (.cells #[.int .i64 h.f0, .int .i64 h.f1, .string h.f2, .slice A1 h.f3.length c1] 58)).alloc (.cells #[.int .i64 b.f0, .int .i64 b.f1, .string b.f2, .slice A2 b.f3.length c2] 58)) (.cells #[.int .i64 u.f0, .int .i64 u.f1, .string u.f2, .slice A3 u.f3.length c3] 58)
  have hz : ((w4.alloc (.cells #[.int .i64 h.f0, .int .i64 h.f1, .string h.f2, .slice A1 h.f3.length c1] 58)).alloc (.cells #[.int .i64 b.f0, .int .i64 b.f1, .string b.f2, .slice A2 b.f3.length c2] 58)).heap.size = w4.heap.size + 2 := by simp only [al_sz]
  rw [hz] at B_6
  clear hz
  clear hal
  have d30 : (((w4.alloc (.cells #[.int .i64 h.f0, .int .i64 h.f1, .string h.f2, .slice A1 h.f3.length c1] 58)).alloc (.cells #[.int .i64 b.f0, .int .i64 b.f1, .string b.f2, .slice A2 b.f3.length c2] 58)).alloc (.cells #[.int .i64 u.f0, .int .i64 u.f1, .string u.f2, .slice A3 u.f3.length c3] 58)).cell? ⟨w4.heap.size, 0, none⟩ = some (.int .i64 h.f0) := (blk_cell B_3 0).trans rfl
  have d31 : (((w4.alloc (.cells #[.int .i64 h.f0, .int .i64 h.f1, .string h.f2, .slice A1 h.f3.length c1] 58)).alloc (.cells #[.int .i64 b.f0, .int .i64 b.f1, .string b.f2, .slice A2 b.f3.length c2] 58)).alloc (.cells #[.int .i64 u.f0, .int .i64 u.f1, .string u.f2, .slice A3 u.f3.length c3] 58)).cell? ⟨w4.heap.size, 1, none⟩ = some (.int .i64 h.f1) := (blk_cell B_3 1).trans rfl
  have d32 : (((w4.alloc (.cells #[.int .i64 h.f0, .int .i64 h.f1, .string h.f2, .slice A1 h.f3.length c1] 58)).alloc (.cells #[.int .i64 b.f0, .int .i64 b.f1, .string b.f2, .slice A2 b.f3.length c2] 58)).alloc (.cells #[.int .i64 u.f0, .int .i64 u.f1, .string u.f2, .slice A3 u.f3.length c3] 58)).cell? ⟨w4.heap.size, 2, none⟩ = some (.string h.f2) := (blk_cell B_3 2).trans rfl
  have d33 : (((w4.alloc (.cells #[.int .i64 h.f0, .int .i64 h.f1, .string h.f2, .slice A1 h.f3.length c1] 58)).alloc (.cells #[.int .i64 b.f0, .int .i64 b.f1, .string b.f2, .slice A2 b.f3.length c2] 58)).alloc (.cells #[.int .i64 u.f0, .int .i64 u.f1, .string u.f2, .slice A3 u.f3.length c3] 58)).cell? ⟨w4.heap.size, 3, none⟩ = some (.slice A1 h.f3.length c1) := (blk_cell B_3 3).trans rfl
  have d40 : (((w4.alloc (.cells #[.int .i64 h.f0, .int .i64 h.f1, .string h.f2, .slice A1 h.f3.length c1] 58)).alloc (.cells #[.int .i64 b.f0, .int .i64 b.f1, .string b.f2, .slice A2 b.f3.length c2] 58)).alloc (.cells #[.int .i64 u.f0, .int .i64 u.f1, .string u.f2, .slice A3 u.f3.length c3] 58)).cell? ⟨w4.heap.size + 1, 0, none⟩ = some (.int .i64 b.f0) := (blk_cell B_4 0).trans rfl
  have d41 : (((w4.alloc (.cells #[.int .i64 h.f0, .int .i64 h.f1, .string h.f2, .slice A1 h.f3.length c1] 58)).alloc (.cells #[.int .i64 b.f0, .int .i64 b.f1, .string b.f2, .slice A2 b.f3.length c2] 58)).alloc (.cells #[.int .i64 u.f0, .int .i64 u.f1, .string u.f2, .slice A3 u.f3.length c3] 58)).cell? ⟨w4.heap.size + 1, 1, none⟩ = some (.int .i64 b.f1) := (blk_cell B_4 1).trans rfl
  have d42 : (((w4.alloc (.cells #[.int .i64 h.f0, .int .i64 h.f1, .string h.f2, .slice A1 h.f3.length c1] 58)).alloc (.cells #[.int .i64 b.f0, .int .i64 b.f1, .string b.f2, .slice A2 b.f3.length c2] 58)).alloc (.cells #[.int .i64 u.f0, .int .i64 u.f1, .string u.f2, .slice A3 u.f3.length c3] 58)).cell? ⟨w4.heap.size + 1, 2, none⟩ = some (.string b.f2) := (blk_cell B_4 2).trans rfl
  have d43 : (((w4.alloc (.cells #[.int .i64 h.f0, .int .i64 h.f1, .string h.f2, .slice A1 h.f3.length c1] 58)).alloc (.cells #[.int .i64 b.f0, .int .i64 b.f1, .string b.f2, .slice A2 b.f3.length c2] 58)).alloc (.cells #[.int .i64 u.f0, .int .i64 u.f1, .string u.f2, .slice A3 u.f3.length c3] 58)).cell? ⟨w4.heap.size + 1, 3, none⟩ = some (.slice A2 b.f3.length c2) := (blk_cell B_4 3).trans rfl
  have d60 : (((w4.alloc (.cells #[.int .i64 h.f0, .int .i64 h.f1, .string h.f2, .slice A1 h.f3.length c1] 58)).alloc (.cells #[.int .i64 b.f0, .int .i64 b.f1, .string b.f2, .slice A2 b.f3.length c2] 58)).alloc (.cells #[.int .i64 u.f0, .int .i64 u.f1, .string u.f2, .slice A3 u.f3.length c3] 58)).cell? ⟨w4.heap.size + 2, 0, none⟩ = some (.int .i64 u.f0) := (blk_cell B_6 0).trans rfl
  have d61 : (((w4.alloc (.cells #[.int .i64 h.f0, .int .i64 h.f1, .string h.f2, .slice A1 h.f3.length c1] 58)).alloc (.cells #[.int .i64 b.f0, .int .i64 b.f1, .string b.f2, .slice A2 b.f3.length c2] 58)).alloc (.cells #[.int .i64 u.f0, .int .i64 u.f1, .string u.f2, .slice A3 u.f3.length c3] 58)).cell? ⟨w4.heap.size + 2, 1, none⟩ = some (.int .i64 u.f1) := (blk_cell B_6 1).trans rfl
  have d62 : (((w4.alloc (.cells #[.int .i64 h.f0, .int .i64 h.f1, .string h.f2, .slice A1 h.f3.length c1] 58)).alloc (.cells #[.int .i64 b.f0, .int .i64 b.f1, .string b.f2, .slice A2 b.f3.length c2] 58)).alloc (.cells #[.int .i64 u.f0, .int .i64 u.f1, .string u.f2, .slice A3 u.f3.length c3] 58)).cell? ⟨w4.heap.size + 2, 2, none⟩ = some (.string u.f2) := (blk_cell B_6 2).trans rfl
  have d63 : (((w4.alloc (.cells #[.int .i64 h.f0, .int .i64 h.f1, .string h.f2, .slice A1 h.f3.length c1] 58)).alloc (.cells #[.int .i64 b.f0, .int .i64 b.f1, .string b.f2, .slice A2 b.f3.length c2] 58)).alloc (.cells #[.int .i64 u.f0, .int .i64 u.f1, .string u.f2, .slice A3 u.f3.length c3] 58)).cell? ⟨w4.heap.size + 2, 3, none⟩ = some (.slice A3 u.f3.length c3) := (blk_cell B_6 3).trans rfl
  replace HB := Aside0.mk HB
  replace B_3 := Aside0.mk B_3
  replace B_4 := Aside0.mk B_4
  replace B_6 := Aside0.mk B_6
  replace F_h := Aside0.mk F_h
  replace F_b := Aside0.mk F_b
  go_wp2_with fail
  replace HB := HB.out
  replace B_3 := B_3.out
  replace B_4 := B_4.out
  replace B_6 := B_6.out
  replace F_h := F_h.out
  replace F_b := F_b.out
  go_ret
  exact ⟨rfl, HB⟩
set_option maxHeartbeats 8000000 in
set_option maxRecDepth 100000 in
theorem cl_erro (l : List S146) (A : Option Addr) (c : Nat) (w : World) (hC : Kd.C k146 w A l.length l) (hc : l.length ≤ c) (hg : ¬ 60 < l.length) (t : S58) (hgood : ∀ (A : Option Addr) (c : Nat) (w : World), Kd.C k146 w A l.length l → l.length ≤ c → Calls Try.prog 33 #[.slice A l.length c] w (RetT t w)) (hs : szT t ≤ 500) (h b u : S58) (n : Int) (hr : clauseR t = ⟨h, b, n, u⟩) (hn0 : ¬ n = 0) (hn : ¬ n = 13) (h0 : h.f0 = 0) (h1 : b.f0 = 0) (h2 : u.f0 = 0) :
    Calls Try.prog 7 #[.slice A l.length c] w fun e w' => e = .returned (.bool true) ∧ Below w.heap.size w w' := by
  have e1 : (h.f0 == 0) = true := by simpa using h0
  have e2 : (b.f0 == 0) = true := by simpa using h1
  have e3 : (u.f0 == 0) = true := by simpa using h2
  have e4 : (u.f0 != 0) = false := by simpa using h2
  have e5 : (n == 0) = false := by simpa using hn0
  have e6 : (n != 0) = true := by simpa using hn0
  have e7 : (n == 13) = false := by simpa using hn
  clear hn0 hn
  clear h0 h1 h2
  replace hgood := Aside0.mk hgood
  replace hs := Aside0.mk hs
  have HB := Below.refl w.heap.size w
  replace hC := Aside0.mk hC
  replace hc := Aside0.mk hc
  have HG : Aside0 (decide (60 < l.length) = false) := ⟨by simpa using hg⟩
  replace hg := Aside0.mk hg
  go_enter Try.func7, Try.ntmps7
  replace HB := Aside0.mk HB
  go_wp2_with fail
  replace HB := HB.out
  refine (alive_calls _).mono ?_
  rintro e w1 ⟨rfl, hb⟩
  replace HB := below_step HB hb
  clear hb
  replace HB := Aside0.mk HB
  go_wp2_with fail
  replace HB := HB.out
  refine (great_calls l A c _).mono ?_
  rintro e w2 ⟨rfl, hb⟩
  replace HB := below_step HB hb
  rw [HG.out]
  clear hb
  replace HB := Aside0.mk HB
  go_wp2_with fail
  replace HB := HB.out
  have hC2 := Kd.C_below hC.out HB
  refine (hgood.out A c _ hC2 hc.out).mono ?_
  rintro e w3 ⟨At, ct, rfl, hct, F_t, hb⟩
  replace HB := below_step HB hb
  clear hC2
  replace hct := Aside0.mk hct
  clear hb
  replace HB := Aside0.mk HB
  replace F_t := Aside0.mk F_t
  go_wp2_with fail
  replace HB := HB.out
  replace F_t := F_t.out
  refine (Clause_c hr (by have := hs.out; omega) At ct w3 (fun q => q < w3.heap.size) (fun _ h => h) (Kd.F_mono (Kd.F_bound F_t) (fun q hq => hq.2)) hct.out).mono ?_
  rintro e w4 ⟨A1, c1, A2, c2, A3, c3, rfl, hc1, hc2, hc3, F_h, F_b, F_u, hb⟩
  replace HB := below_step HB hb
  replace F_t := Kd.F_below F_t hb
  clear F_t F_u hct
  replace hc1 := Aside0.mk hc1
  replace hc2 := Aside0.mk hc2
  replace hc3 := Aside0.mk hc3
  clear hb
  have hal : Below w4.heap.size w4 (((w4.alloc (.cells #[.int .i64 h.f0, .int .i64 h.f1, .string h.f2, .slice A1 h.f3.length c1] 58)).alloc (.cells #[.int .i64 b.f0, .int .i64 b.f1, .string b.f2, .slice A2 b.f3.length c2] 58)).alloc (.cells #[.int .i64 u.f0, .int .i64 u.f1, .string u.f2, .slice A3 u.f3.length c3] 58)) := below_alloc (below_alloc (below_alloc (Below.refl _ _) (.cells #[.int .i64 h.f0, .int .i64 h.f1, .string h.f2, .slice A1 h.f3.length c1] 58)) (.cells #[.int .i64 b.f0, .int .i64 b.f1, .string b.f2, .slice A2 b.f3.length c2] 58)) (.cells #[.int .i64 u.f0, .int .i64 u.f1, .string u.f2, .slice A3 u.f3.length c3] 58)
  replace HB := below_step HB hal
  replace F_h := Kd.F_below F_h hal
  replace F_b := Kd.F_below F_b hal
  have B_3 := blk_alloc (blk_alloc (heap_alloc_new w4 (.cells #[.int .i64 h.f0, .int .i64 h.f1, .string h.f2, .slice A1 h.f3.length c1] 58)) (.cells #[.int .i64 b.f0, .int .i64 b.f1, .string b.f2, .slice A2 b.f3.length c2] 58)) (.cells #[.int .i64 u.f0, .int .i64 u.f1, .string u.f2, .slice A3 u.f3.length c3] 58)
  have hz : w4.heap.size = w4.heap.size + 0 := by rfl
  skip
  clear hz
  have B_4 := blk_alloc (heap_alloc_new (w4.alloc (.cells #[.int .i64 h.f0, .int .i64 h.f1, .string h.f2, .slice A1 h.f3.length c1] 58)) (.cells #[.int .i64 b.f0, .int .i64 b.f1, .string b.f2, .slice A2 b.f3.length c2] 58)) (.cells #[.int .i64 u.f0, .int .i64 u.f1, .string u.f2, .slice A3 u.f3.length c3] 58)
  have hz : (w4.alloc (.cells #[.int .i64 h.f0, .int .i64 h.f1, .string h.f2, .slice A1 h.f3.length c1] 58)).heap.size = w4.heap.size + 1 := by simp only [al_sz]
  rw [hz] at B_4
  clear hz
  have B_6 := heap_alloc_new ((w4.alloc (.cells #[.int .i64 h.f0, .int .i64 h.f1, .string h.f2, .slice A1 h.f3.length c1] 58)).alloc (.cells #[.int .i64 b.f0, .int .i64 b.f1, .string b.f2, .slice A2 b.f3.length c2] 58)) (.cells #[.int .i64 u.f0, .int .i64 u.f1, .string u.f2, .slice A3 u.f3.length c3] 58)
  have hz : ((w4.alloc (.cells #[.int .i64 h.f0, .int .i64 h.f1, .string h.f2, .slice A1 h.f3.length c1] 58)).alloc (.cells #[.int .i64 b.f0, .int .i64 b.f1, .string b.f2, .slice A2 b.f3.length c2] 58)).heap.size = w4.heap.size + 2 := by simp only [al_sz]
  rw [hz] at B_6
  clear hz
  clear hal
  have d30 : (((w4.alloc (.cells #[.int .i64 h.f0, .int .i64 h.f1, .string h.f2, .slice A1 h.f3.length c1] 58)).alloc (.cells #[.int .i64 b.f0, .int .i64 b.f1, .string b.f2, .slice A2 b.f3.length c2] 58)).alloc (.cells #[.int .i64 u.f0, .int .i64 u.f1, .string u.f2, .slice A3 u.f3.length c3] 58)).cell? ⟨w4.heap.size, 0, none⟩ = some (.int .i64 h.f0) := (blk_cell B_3 0).trans rfl
  have d31 : (((w4.alloc (.cells #[.int .i64 h.f0, .int .i64 h.f1, .string h.f2, .slice A1 h.f3.length c1] 58)).alloc (.cells #[.int .i64 b.f0, .int .i64 b.f1, .string b.f2, .slice A2 b.f3.length c2] 58)).alloc (.cells #[.int .i64 u.f0, .int .i64 u.f1, .string u.f2, .slice A3 u.f3.length c3] 58)).cell? ⟨w4.heap.size, 1, none⟩ = some (.int .i64 h.f1) := (blk_cell B_3 1).trans rfl
  have d32 : (((w4.alloc (.cells #[.int .i64 h.f0, .int .i64 h.f1, .string h.f2, .slice A1 h.f3.length c1] 58)).alloc (.cells #[.int .i64 b.f0, .int .i64 b.f1, .string b.f2, .slice A2 b.f3.length c2] 58)).alloc (.cells #[.int .i64 u.f0, .int .i64 u.f1, .string u.f2, .slice A3 u.f3.length c3] 58)).cell? ⟨w4.heap.size, 2, none⟩ = some (.string h.f2) := (blk_cell B_3 2).trans rfl
  have d33 : (((w4.alloc (.cells #[.int .i64 h.f0, .int .i64 h.f1, .string h.f2, .slice A1 h.f3.length c1] 58)).alloc (.cells #[.int .i64 b.f0, .int .i64 b.f1, .string b.f2, .slice A2 b.f3.length c2] 58)).alloc (.cells #[.int .i64 u.f0, .int .i64 u.f1, .string u.f2, .slice A3 u.f3.length c3] 58)).cell? ⟨w4.heap.size, 3, none⟩ = some (.slice A1 h.f3.length c1) := (blk_cell B_3 3).trans rfl
  have d40 : (((w4.alloc (.cells #[.int .i64 h.f0, .int .i64 h.f1, .string h.f2, .slice A1 h.f3.length c1] 58)).alloc (.cells #[.int .i64 b.f0, .int .i64 b.f1, .string b.f2, .slice A2 b.f3.length c2] 58)).alloc (.cells #[.int .i64 u.f0, .int .i64 u.f1, .string u.f2, .slice A3 u.f3.length c3] 58)).cell? ⟨w4.heap.size + 1, 0, none⟩ = some (.int .i64 b.f0) := (blk_cell B_4 0).trans rfl
  have d41 : (((w4.alloc (.cells #[.int .i64 h.f0, .int .i64 h.f1, .string h.f2, .slice A1 h.f3.length c1] 58)).alloc (.cells #[.int .i64 b.f0, .int .i64 b.f1, .string b.f2, .slice A2 b.f3.length c2] 58)).alloc (.cells #[.int .i64 u.f0, .int .i64 u.f1, .string u.f2, .slice A3 u.f3.length c3] 58)).cell? ⟨w4.heap.size + 1, 1, none⟩ = some (.int .i64 b.f1) := (blk_cell B_4 1).trans rfl
  have d42 : (((w4.alloc (.cells #[.int .i64 h.f0, .int .i64 h.f1, .string h.f2, .slice A1 h.f3.length c1] 58)).alloc (.cells #[.int .i64 b.f0, .int .i64 b.f1, .string b.f2, .slice A2 b.f3.length c2] 58)).alloc (.cells #[.int .i64 u.f0, .int .i64 u.f1, .string u.f2, .slice A3 u.f3.length c3] 58)).cell? ⟨w4.heap.size + 1, 2, none⟩ = some (.string b.f2) := (blk_cell B_4 2).trans rfl
  have d43 : (((w4.alloc (.cells #[.int .i64 h.f0, .int .i64 h.f1, .string h.f2, .slice A1 h.f3.length c1] 58)).alloc (.cells #[.int .i64 b.f0, .int .i64 b.f1, .string b.f2, .slice A2 b.f3.length c2] 58)).alloc (.cells #[.int .i64 u.f0, .int .i64 u.f1, .string u.f2, .slice A3 u.f3.length c3] 58)).cell? ⟨w4.heap.size + 1, 3, none⟩ = some (.slice A2 b.f3.length c2) := (blk_cell B_4 3).trans rfl
  have d60 : (((w4.alloc (.cells #[.int .i64 h.f0, .int .i64 h.f1, .string h.f2, .slice A1 h.f3.length c1] 58)).alloc (.cells #[.int .i64 b.f0, .int .i64 b.f1, .string b.f2, .slice A2 b.f3.length c2] 58)).alloc (.cells #[.int .i64 u.f0, .int .i64 u.f1, .string u.f2, .slice A3 u.f3.length c3] 58)).cell? ⟨w4.heap.size + 2, 0, none⟩ = some (.int .i64 u.f0) := (blk_cell B_6 0).trans rfl
  have d61 : (((w4.alloc (.cells #[.int .i64 h.f0, .int .i64 h.f1, .string h.f2, .slice A1 h.f3.length c1] 58)).alloc (.cells #[.int .i64 b.f0, .int .i64 b.f1, .string b.f2, .slice A2 b.f3.length c2] 58)).alloc (.cells #[.int .i64 u.f0, .int .i64 u.f1, .string u.f2, .slice A3 u.f3.length c3] 58)).cell? ⟨w4.heap.size + 2, 1, none⟩ = some (.int .i64 u.f1) := (blk_cell B_6 1).trans rfl
  have d62 : (((w4.alloc (.cells #[.int .i64 h.f0, .int .i64 h.f1, .string h.f2, .slice A1 h.f3.length c1] 58)).alloc (.cells #[.int .i64 b.f0, .int .i64 b.f1, .string b.f2, .slice A2 b.f3.length c2] 58)).alloc (.cells #[.int .i64 u.f0, .int .i64 u.f1, .string u.f2, .slice A3 u.f3.length c3] 58)).cell? ⟨w4.heap.size + 2, 2, none⟩ = some (.string u.f2) := (blk_cell B_6 2).trans rfl
  have d63 : (((w4.alloc (.cells #[.int .i64 h.f0, .int .i64 h.f1, .string h.f2, .slice A1 h.f3.length c1] 58)).alloc (.cells #[.int .i64 b.f0, .int .i64 b.f1, .string b.f2, .slice A2 b.f3.length c2] 58)).alloc (.cells #[.int .i64 u.f0, .int .i64 u.f1, .string u.f2, .slice A3 u.f3.length c3] 58)).cell? ⟨w4.heap.size + 2, 3, none⟩ = some (.slice A3 u.f3.length c3) := (blk_cell B_6 3).trans rfl
  replace HB := Aside0.mk HB
  replace B_3 := Aside0.mk B_3
  replace B_4 := Aside0.mk B_4
  replace B_6 := Aside0.mk B_6
  replace F_h := Aside0.mk F_h
  replace F_b := Aside0.mk F_b
  go_wp2_with fail
  replace HB := HB.out
  replace B_3 := B_3.out
  replace B_4 := B_4.out
  replace B_6 := B_6.out
  replace F_h := F_h.out
  replace F_b := F_b.out
  go_ret
  exact ⟨rfl, HB⟩
set_option maxHeartbeats 8000000 in
set_option maxRecDepth 100000 in
theorem cl_ok3 (l : List S146) (A : Option Addr) (c : Nat) (w : World) (hC : Kd.C k146 w A l.length l) (hc : l.length ≤ c) (hg : ¬ 60 < l.length) (t : S58) (hgood : ∀ (A : Option Addr) (c : Nat) (w : World), Kd.C k146 w A l.length l → l.length ≤ c → Calls Try.prog 33 #[.slice A l.length c] w (RetT t w)) (hs : szT t ≤ 500) (h b : S58) (hr : clauseR t = ⟨h, b, 0, z58⟩) (hr2 : clauseR (tCl h b) = ⟨h, b, 0, z58⟩) (h3 : h.f0 = 3) (hk : 0 ≤ kindV b) (hsh : szT h ≤ 500) (hsb : szT b ≤ 1000) :
    Calls Try.prog 7 #[.slice A l.length c] w fun e w' => e = .returned (.bool true) ∧ Below w.heap.size w w' := by
  have hkk : Aside0 (0 ≤ kindV b) := ⟨hk⟩
  obtain ⟨v, hv⟩ : ∃ v, kindV b = v := ⟨_, rfl⟩
  rw [hv] at hk
  have hkv := Aside0.mk hv
  have k1 : decide (v ≥ 0) = true := decide_eq_true hk
  have k2 : decide (0 ≤ v) = true := decide_eq_true hk
  have hsz : Aside0 (szT (tCl h b) ≤ 400000) := ⟨by rw [tCl_sz]; omega⟩
  have hszh : Aside0 (szT h ≤ 500) := ⟨hsh⟩
  have hszb : Aside0 (szT b ≤ 1000) := ⟨hsb⟩
  clear hkk hv hsh hsb
  have e1 : (h.f0 == 3) = true := by simpa using h3
  clear h3
  replace hgood := Aside0.mk hgood
  replace hs := Aside0.mk hs
  have HB := Below.refl w.heap.size w
  replace hC := Aside0.mk hC
  replace hc := Aside0.mk hc
  have HG : Aside0 (decide (60 < l.length) = false) := ⟨by simpa using hg⟩
  replace hg := Aside0.mk hg
  go_enter Try.func7, Try.ntmps7
  replace HB := Aside0.mk HB
  go_wp2_with fail
  replace HB := HB.out
  refine (alive_calls _).mono ?_
  rintro e w1 ⟨rfl, hb⟩
  replace HB := below_step HB hb
  clear hb
  replace HB := Aside0.mk HB
  go_wp2_with fail
  replace HB := HB.out
  refine (great_calls l A c _).mono ?_
  rintro e w2 ⟨rfl, hb⟩
  replace HB := below_step HB hb
  rw [HG.out]
  clear hb
  replace HB := Aside0.mk HB
  go_wp2_with fail
  replace HB := HB.out
  have hC2 := Kd.C_below hC.out HB
  refine (hgood.out A c _ hC2 hc.out).mono ?_
  rintro e w3 ⟨At, ct, rfl, hct, F_t, hb⟩
  replace HB := below_step HB hb
  clear hC2
  replace hct := Aside0.mk hct
  clear hb
  replace HB := Aside0.mk HB
  replace F_t := Aside0.mk F_t
  go_wp2_with fail
  replace HB := HB.out
  replace F_t := F_t.out
  refine (Clause_c hr (by have := hs.out; omega) At ct w3 (fun q => q < w3.heap.size) (fun _ h => h) (Kd.F_mono (Kd.F_bound F_t) (fun q hq => hq.2)) hct.out).mono ?_
  rintro e w4 ⟨A1, c1, A2, c2, A3, c3, rfl, hc1, hc2, hc3, F_h, F_b, F_u, hb⟩
  replace HB := below_step HB hb
  replace F_t := Kd.F_below F_t hb
  clear F_t F_u hct
  replace hc1 := Aside0.mk hc1
  replace hc2 := Aside0.mk hc2
  replace hc3 := Aside0.mk hc3
  clear hb
  have hal : Below w4.heap.size w4 (((w4.alloc (.cells #[.int .i64 h.f0, .int .i64 h.f1, .string h.f2, .slice A1 h.f3.length c1] 58)).alloc (.cells #[.int .i64 b.f0, .int .i64 b.f1, .string b.f2, .slice A2 b.f3.length c2] 58)).alloc (.cells #[.int .i64 z58.f0, .int .i64 z58.f1, .string z58.f2, .slice A3 z58.f3.length c3] 58)) := below_alloc (below_alloc (below_alloc (Below.refl _ _) (.cells #[.int .i64 h.f0, .int .i64 h.f1, .string h.f2, .slice A1 h.f3.length c1] 58)) (.cells #[.int .i64 b.f0, .int .i64 b.f1, .string b.f2, .slice A2 b.f3.length c2] 58)) (.cells #[.int .i64 z58.f0, .int .i64 z58.f1, .string z58.f2, .slice A3 z58.f3.length c3] 58)
  replace HB := below_step HB hal
  replace F_h := Kd.F_below F_h hal
  replace F_b := Kd.F_below F_b hal
  have B_3 := blk_alloc (blk_alloc (heap_alloc_new w4 (.cells #[.int .i64 h.f0, .int .i64 h.f1, .string h.f2, .slice A1 h.f3.length c1] 58)) (.cells #[.int .i64 b.f0, .int .i64 b.f1, .string b.f2, .slice A2 b.f3.length c2] 58)) (.cells #[.int .i64 z58.f0, .int .i64 z58.f1, .string z58.f2, .slice A3 z58.f3.length c3] 58)
  have hz : w4.heap.size = w4.heap.size + 0 := by rfl
  skip
  clear hz
  have B_4 := blk_alloc (heap_alloc_new (w4.alloc (.cells #[.int .i64 h.f0, .int .i64 h.f1, .string h.f2, .slice A1 h.f3.length c1] 58)) (.cells #[.int .i64 b.f0, .int .i64 b.f1, .string b.f2, .slice A2 b.f3.length c2] 58)) (.cells #[.int .i64 z58.f0, .int .i64 z58.f1, .string z58.f2, .slice A3 z58.f3.length c3] 58)
  have hz : (w4.alloc (.cells #[.int .i64 h.f0, .int .i64 h.f1, .string h.f2, .slice A1 h.f3.length c1] 58)).heap.size = w4.heap.size + 1 := by simp only [al_sz]
  rw [hz] at B_4
  clear hz
  have B_6 := heap_alloc_new ((w4.alloc (.cells #[.int .i64 h.f0, .int .i64 h.f1, .string h.f2, .slice A1 h.f3.length c1] 58)).alloc (.cells #[.int .i64 b.f0, .int .i64 b.f1, .string b.f2, .slice A2 b.f3.length c2] 58)) (.cells #[.int .i64 z58.f0, .int .i64 z58.f1, .string z58.f2, .slice A3 z58.f3.length c3] 58)
  have hz : ((w4.alloc (.cells #[.int .i64 h.f0, .int .i64 h.f1, .string h.f2, .slice A1 h.f3.length c1] 58)).alloc (.cells #[.int .i64 b.f0, .int .i64 b.f1, .string b.f2, .slice A2 b.f3.length c2] 58)).heap.size = w4.heap.size + 2 := by simp only [al_sz]
  rw [hz] at B_6
  clear hz
  clear hal
  have d30 : (((w4.alloc (.cells #[.int .i64 h.f0, .int .i64 h.f1, .string h.f2, .slice A1 h.f3.length c1] 58)).alloc (.cells #[.int .i64 b.f0, .int .i64 b.f1, .string b.f2, .slice A2 b.f3.length c2] 58)).alloc (.cells #[.int .i64 z58.f0, .int .i64 z58.f1, .string z58.f2, .slice A3 z58.f3.length c3] 58)).cell? ⟨w4.heap.size, 0, none⟩ = some (.int .i64 h.f0) := (blk_cell B_3 0).trans rfl
  have d31 : (((w4.alloc (.cells #[.int .i64 h.f0, .int .i64 h.f1, .string h.f2, .slice A1 h.f3.length c1] 58)).alloc (.cells #[.int .i64 b.f0, .int .i64 b.f1, .string b.f2, .slice A2 b.f3.length c2] 58)).alloc (.cells #[.int .i64 z58.f0, .int .i64 z58.f1, .string z58.f2, .slice A3 z58.f3.length c3] 58)).cell? ⟨w4.heap.size, 1, none⟩ = some (.int .i64 h.f1) := (blk_cell B_3 1).trans rfl
  have d32 : (((w4.alloc (.cells #[.int .i64 h.f0, .int .i64 h.f1, .string h.f2, .slice A1 h.f3.length c1] 58)).alloc (.cells #[.int .i64 b.f0, .int .i64 b.f1, .string b.f2, .slice A2 b.f3.length c2] 58)).alloc (.cells #[.int .i64 z58.f0, .int .i64 z58.f1, .string z58.f2, .slice A3 z58.f3.length c3] 58)).cell? ⟨w4.heap.size, 2, none⟩ = some (.string h.f2) := (blk_cell B_3 2).trans rfl
  have d33 : (((w4.alloc (.cells #[.int .i64 h.f0, .int .i64 h.f1, .string h.f2, .slice A1 h.f3.length c1] 58)).alloc (.cells #[.int .i64 b.f0, .int .i64 b.f1, .string b.f2, .slice A2 b.f3.length c2] 58)).alloc (.cells #[.int .i64 z58.f0, .int .i64 z58.f1, .string z58.f2, .slice A3 z58.f3.length c3] 58)).cell? ⟨w4.heap.size, 3, none⟩ = some (.slice A1 h.f3.length c1) := (blk_cell B_3 3).trans rfl
  have d40 : (((w4.alloc (.cells #[.int .i64 h.f0, .int .i64 h.f1, .string h.f2, .slice A1 h.f3.length c1] 58)).alloc (.cells #[.int .i64 b.f0, .int .i64 b.f1, .string b.f2, .slice A2 b.f3.length c2] 58)).alloc (.cells #[.int .i64 z58.f0, .int .i64 z58.f1, .string z58.f2, .slice A3 z58.f3.length c3] 58)).cell? ⟨w4.heap.size + 1, 0, none⟩ = some (.int .i64 b.f0) := (blk_cell B_4 0).trans rfl
  have d41 : (((w4.alloc (.cells #[.int .i64 h.f0, .int .i64 h.f1, .string h.f2, .slice A1 h.f3.length c1] 58)).alloc (.cells #[.int .i64 b.f0, .int .i64 b.f1, .string b.f2, .slice A2 b.f3.length c2] 58)).alloc (.cells #[.int .i64 z58.f0, .int .i64 z58.f1, .string z58.f2, .slice A3 z58.f3.length c3] 58)).cell? ⟨w4.heap.size + 1, 1, none⟩ = some (.int .i64 b.f1) := (blk_cell B_4 1).trans rfl
  have d42 : (((w4.alloc (.cells #[.int .i64 h.f0, .int .i64 h.f1, .string h.f2, .slice A1 h.f3.length c1] 58)).alloc (.cells #[.int .i64 b.f0, .int .i64 b.f1, .string b.f2, .slice A2 b.f3.length c2] 58)).alloc (.cells #[.int .i64 z58.f0, .int .i64 z58.f1, .string z58.f2, .slice A3 z58.f3.length c3] 58)).cell? ⟨w4.heap.size + 1, 2, none⟩ = some (.string b.f2) := (blk_cell B_4 2).trans rfl
  have d43 : (((w4.alloc (.cells #[.int .i64 h.f0, .int .i64 h.f1, .string h.f2, .slice A1 h.f3.length c1] 58)).alloc (.cells #[.int .i64 b.f0, .int .i64 b.f1, .string b.f2, .slice A2 b.f3.length c2] 58)).alloc (.cells #[.int .i64 z58.f0, .int .i64 z58.f1, .string z58.f2, .slice A3 z58.f3.length c3] 58)).cell? ⟨w4.heap.size + 1, 3, none⟩ = some (.slice A2 b.f3.length c2) := (blk_cell B_4 3).trans rfl
  replace HB := Aside0.mk HB
  replace B_3 := Aside0.mk B_3
  replace B_4 := Aside0.mk B_4
  replace B_6 := Aside0.mk B_6
  replace F_h := Aside0.mk F_h
  replace F_b := Aside0.mk F_b
  go_wp2_with fail
  replace HB := HB.out
  replace B_3 := B_3.out
  replace B_4 := B_4.out
  replace B_6 := B_6.out
  replace F_h := F_h.out
  replace F_b := F_b.out
  clear d30 d31 d32 d33 d40 d41 d42 d43
  have hal : Below (((w4.alloc (.cells #[.int .i64 h.f0, .int .i64 h.f1, .string h.f2, .slice A1 h.f3.length c1] 58)).alloc (.cells #[.int .i64 b.f0, .int .i64 b.f1, .string b.f2, .slice A2 b.f3.length c2] 58)).alloc (.cells #[.int .i64 z58.f0, .int .i64 z58.f1, .string z58.f2, .slice A3 z58.f3.length c3] 58)).heap.size (((w4.alloc (.cells #[.int .i64 h.f0, .int .i64 h.f1, .string h.f2, .slice A1 h.f3.length c1] 58)).alloc (.cells #[.int .i64 b.f0, .int .i64 b.f1, .string b.f2, .slice A2 b.f3.length c2] 58)).alloc (.cells #[.int .i64 z58.f0, .int .i64 z58.f1, .string z58.f2, .slice A3 z58.f3.length c3] 58)) ((((w4.alloc (.cells #[.int .i64 h.f0, .int .i64 h.f1, .string h.f2, .slice A1 h.f3.length c1] 58)).alloc (.cells #[.int .i64 b.f0, .int .i64 b.f1, .string b.f2, .slice A2 b.f3.length c2] 58)).alloc (.cells #[.int .i64 z58.f0, .int .i64 z58.f1, .string z58.f2, .slice A3 z58.f3.length c3] 58)).alloc (.cells #[.int .i64 h.f0, .int .i64 h.f1, .string h.f2, .slice A1 h.f3.length c1, .int .i64 b.f0, .int .i64 b.f1, .string b.f2, .slice A2 b.f3.length c2] 58)) := below_alloc (Below.refl _ _) (.cells #[.int .i64 h.f0, .int .i64 h.f1, .string h.f2, .slice A1 h.f3.length c1, .int .i64 b.f0, .int .i64 b.f1, .string b.f2, .slice A2 b.f3.length c2] 58)
  replace HB := below_step HB hal
  replace B_3 := blk_below B_3 hal
  replace B_4 := blk_below B_4 hal
  replace B_6 := blk_below B_6 hal
  replace F_h := Kd.F_below F_h hal
  replace F_b := Kd.F_below F_b hal
  have B_L := heap_alloc_new (((w4.alloc (.cells #[.int .i64 h.f0, .int .i64 h.f1, .string h.f2, .slice A1 h.f3.length c1] 58)).alloc (.cells #[.int .i64 b.f0, .int .i64 b.f1, .string b.f2, .slice A2 b.f3.length c2] 58)).alloc (.cells #[.int .i64 z58.f0, .int .i64 z58.f1, .string z58.f2, .slice A3 z58.f3.length c3] 58)) (.cells #[.int .i64 h.f0, .int .i64 h.f1, .string h.f2, .slice A1 h.f3.length c1, .int .i64 b.f0, .int .i64 b.f1, .string b.f2, .slice A2 b.f3.length c2] 58)
  have hz : (((w4.alloc (.cells #[.int .i64 h.f0, .int .i64 h.f1, .string h.f2, .slice A1 h.f3.length c1] 58)).alloc (.cells #[.int .i64 b.f0, .int .i64 b.f1, .string b.f2, .slice A2 b.f3.length c2] 58)).alloc (.cells #[.int .i64 z58.f0, .int .i64 z58.f1, .string z58.f2, .slice A3 z58.f3.length c3] 58)).heap.size = w4.heap.size + 3 := by simp only [al_sz]
  rw [hz] at B_L
  clear hz
  clear hal
  refine (f_calls _ _ _ _ _).mono ?_
  rintro e w5 ⟨rfl, hb⟩
  replace HB := below_step HB hb
  replace B_3 := blk_below B_3 hb
  replace B_4 := blk_below B_4 hb
  replace B_6 := blk_below B_6 hb
  replace B_L := blk_below B_L hb
  replace F_h := Kd.F_below F_h hb
  replace F_b := Kd.F_below F_b hb
  have F_1 := lit2 (x := h) (y := b) B_L hc1.out (Kd.F_mono (Kd.F_bound F_h) (ok' := fun q => q < w5.heap.size) (fun q hq => hq.2)) hc2.out (Kd.F_mono (Kd.F_bound F_b) (ok' := fun q => q < w5.heap.size) (fun q hq => hq.2))
  clear B_L
  clear hb
  replace HB := Aside0.mk HB
  replace B_3 := Aside0.mk B_3
  replace B_4 := Aside0.mk B_4
  replace B_6 := Aside0.mk B_6
  replace F_h := Aside0.mk F_h
  replace F_b := Aside0.mk F_b
  replace F_1 := Aside0.mk F_1
  go_wp2_with fail
  replace HB := HB.out
  replace B_3 := B_3.out
  replace B_4 := B_4.out
  replace B_6 := B_6.out
  replace F_h := F_h.out
  replace F_b := F_b.out
  replace F_1 := F_1.out
  refine (Clause_c (x := tCl h b) hr2 hsz.out (some ⟨w4.heap.size + 3, 0, none⟩) 2 w5 (fun q => q < w5.heap.size) (fun _ h => h) (Kd.F_mono (Kd.F_bound F_1) (fun q hq => hq.2)) (Nat.le_refl 2)).mono ?_
  rintro e w6 ⟨A7, c7, A8, c8, A9, c9, rfl, hc7, hc8, hc9, F_x, F_y, F_z, hb⟩
  replace HB := below_step HB hb
  replace B_3 := blk_below B_3 hb
  replace B_4 := blk_below B_4 hb
  replace B_6 := blk_below B_6 hb
  replace F_h := Kd.F_below F_h hb
  replace F_b := Kd.F_below F_b hb
  replace F_1 := Kd.F_below F_1 hb
  clear F_1 F_z hc9
  replace hc7 := Aside0.mk hc7
  replace hc8 := Aside0.mk hc8
  clear hb
  have hal : Below w6.heap.size w6 (((w6.alloc (.cells #[.int .i64 h.f0, .int .i64 h.f1, .string h.f2, .slice A7 h.f3.length c7] 58)).alloc (.cells #[.int .i64 b.f0, .int .i64 b.f1, .string b.f2, .slice A8 b.f3.length c8] 58)).alloc (.cells #[.int .i64 z58.f0, .int .i64 z58.f1, .string z58.f2, .slice A9 z58.f3.length c9] 58)) := below_alloc (below_alloc (below_alloc (Below.refl _ _) (.cells #[.int .i64 h.f0, .int .i64 h.f1, .string h.f2, .slice A7 h.f3.length c7] 58)) (.cells #[.int .i64 b.f0, .int .i64 b.f1, .string b.f2, .slice A8 b.f3.length c8] 58)) (.cells #[.int .i64 z58.f0, .int .i64 z58.f1, .string z58.f2, .slice A9 z58.f3.length c9] 58)
  replace HB := below_step HB hal
  replace B_3 := blk_below B_3 hal
  replace B_4 := blk_below B_4 hal
  replace B_6 := blk_below B_6 hal
  replace F_h := Kd.F_below F_h hal
  replace F_b := Kd.F_below F_b hal
  replace F_x := Kd.F_below F_x hal
  replace F_y := Kd.F_below F_y hal
  have B_7 := blk_alloc (blk_alloc (heap_alloc_new w6 (.cells #[.int .i64 h.f0, .int .i64 h.f1, .string h.f2, .slice A7 h.f3.length c7] 58)) (.cells #[.int .i64 b.f0, .int .i64 b.f1, .string b.f2, .slice A8 b.f3.length c8] 58)) (.cells #[.int .i64 z58.f0, .int .i64 z58.f1, .string z58.f2, .slice A9 z58.f3.length c9] 58)
  have hz : w6.heap.size = w6.heap.size + 0 := by rfl
  skip
  clear hz
  have B_8 := blk_alloc (heap_alloc_new (w6.alloc (.cells #[.int .i64 h.f0, .int .i64 h.f1, .string h.f2, .slice A7 h.f3.length c7] 58)) (.cells #[.int .i64 b.f0, .int .i64 b.f1, .string b.f2, .slice A8 b.f3.length c8] 58)) (.cells #[.int .i64 z58.f0, .int .i64 z58.f1, .string z58.f2, .slice A9 z58.f3.length c9] 58)
  have hz : (w6.alloc (.cells #[.int .i64 h.f0, .int .i64 h.f1, .string h.f2, .slice A7 h.f3.length c7] 58)).heap.size = w6.heap.size + 1 := by simp only [al_sz]
  rw [hz] at B_8
  clear hz
  have B_9 := heap_alloc_new ((w6.alloc (.cells #[.int .i64 h.f0, .int .i64 h.f1, .string h.f2, .slice A7 h.f3.length c7] 58)).alloc (.cells #[.int .i64 b.f0, .int .i64 b.f1, .string b.f2, .slice A8 b.f3.length c8] 58)) (.cells #[.int .i64 z58.f0, .int .i64 z58.f1, .string z58.f2, .slice A9 z58.f3.length c9] 58)
  have hz : ((w6.alloc (.cells #[.int .i64 h.f0, .int .i64 h.f1, .string h.f2, .slice A7 h.f3.length c7] 58)).alloc (.cells #[.int .i64 b.f0, .int .i64 b.f1, .string b.f2, .slice A8 b.f3.length c8] 58)).heap.size = w6.heap.size + 2 := by simp only [al_sz]
  rw [hz] at B_9
  clear hz
  clear hal
  have d30 : (((w6.alloc (.cells #[.int .i64 h.f0, .int .i64 h.f1, .string h.f2, .slice A7 h.f3.length c7] 58)).alloc (.cells #[.int .i64 b.f0, .int .i64 b.f1, .string b.f2, .slice A8 b.f3.length c8] 58)).alloc (.cells #[.int .i64 z58.f0, .int .i64 z58.f1, .string z58.f2, .slice A9 z58.f3.length c9] 58)).cell? ⟨w4.heap.size, 0, none⟩ = some (.int .i64 h.f0) := (blk_cell B_3 0).trans rfl
  have d31 : (((w6.alloc (.cells #[.int .i64 h.f0, .int .i64 h.f1, .string h.f2, .slice A7 h.f3.length c7] 58)).alloc (.cells #[.int .i64 b.f0, .int .i64 b.f1, .string b.f2, .slice A8 b.f3.length c8] 58)).alloc (.cells #[.int .i64 z58.f0, .int .i64 z58.f1, .string z58.f2, .slice A9 z58.f3.length c9] 58)).cell? ⟨w4.heap.size, 1, none⟩ = some (.int .i64 h.f1) := (blk_cell B_3 1).trans rfl
  have d32 : (((w6.alloc (.cells #[.int .i64 h.f0, .int .i64 h.f1, .string h.f2, .slice A7 h.f3.length c7] 58)).alloc (.cells #[.int .i64 b.f0, .int .i64 b.f1, .string b.f2, .slice A8 b.f3.length c8] 58)).alloc (.cells #[.int .i64 z58.f0, .int .i64 z58.f1, .string z58.f2, .slice A9 z58.f3.length c9] 58)).cell? ⟨w4.heap.size, 2, none⟩ = some (.string h.f2) := (blk_cell B_3 2).trans rfl
  have d33 : (((w6.alloc (.cells #[.int .i64 h.f0, .int .i64 h.f1, .string h.f2, .slice A7 h.f3.length c7] 58)).alloc (.cells #[.int .i64 b.f0, .int .i64 b.f1, .string b.f2, .slice A8 b.f3.length c8] 58)).alloc (.cells #[.int .i64 z58.f0, .int .i64 z58.f1, .string z58.f2, .slice A9 z58.f3.length c9] 58)).cell? ⟨w4.heap.size, 3, none⟩ = some (.slice A1 h.f3.length c1) := (blk_cell B_3 3).trans rfl
  have d40 : (((w6.alloc (.cells #[.int .i64 h.f0, .int .i64 h.f1, .string h.f2, .slice A7 h.f3.length c7] 58)).alloc (.cells #[.int .i64 b.f0, .int .i64 b.f1, .string b.f2, .slice A8 b.f3.length c8] 58)).alloc (.cells #[.int .i64 z58.f0, .int .i64 z58.f1, .string z58.f2, .slice A9 z58.f3.length c9] 58)).cell? ⟨w4.heap.size + 1, 0, none⟩ = some (.int .i64 b.f0) := (blk_cell B_4 0).trans rfl
  have d41 : (((w6.alloc (.cells #[.int .i64 h.f0, .int .i64 h.f1, .string h.f2, .slice A7 h.f3.length c7] 58)).alloc (.cells #[.int .i64 b.f0, .int .i64 b.f1, .string b.f2, .slice A8 b.f3.length c8] 58)).alloc (.cells #[.int .i64 z58.f0, .int .i64 z58.f1, .string z58.f2, .slice A9 z58.f3.length c9] 58)).cell? ⟨w4.heap.size + 1, 1, none⟩ = some (.int .i64 b.f1) := (blk_cell B_4 1).trans rfl
  have d42 : (((w6.alloc (.cells #[.int .i64 h.f0, .int .i64 h.f1, .string h.f2, .slice A7 h.f3.length c7] 58)).alloc (.cells #[.int .i64 b.f0, .int .i64 b.f1, .string b.f2, .slice A8 b.f3.length c8] 58)).alloc (.cells #[.int .i64 z58.f0, .int .i64 z58.f1, .string z58.f2, .slice A9 z58.f3.length c9] 58)).cell? ⟨w4.heap.size + 1, 2, none⟩ = some (.string b.f2) := (blk_cell B_4 2).trans rfl
  have d43 : (((w6.alloc (.cells #[.int .i64 h.f0, .int .i64 h.f1, .string h.f2, .slice A7 h.f3.length c7] 58)).alloc (.cells #[.int .i64 b.f0, .int .i64 b.f1, .string b.f2, .slice A8 b.f3.length c8] 58)).alloc (.cells #[.int .i64 z58.f0, .int .i64 z58.f1, .string z58.f2, .slice A9 z58.f3.length c9] 58)).cell? ⟨w4.heap.size + 1, 3, none⟩ = some (.slice A2 b.f3.length c2) := (blk_cell B_4 3).trans rfl
  have d70 : (((w6.alloc (.cells #[.int .i64 h.f0, .int .i64 h.f1, .string h.f2, .slice A7 h.f3.length c7] 58)).alloc (.cells #[.int .i64 b.f0, .int .i64 b.f1, .string b.f2, .slice A8 b.f3.length c8] 58)).alloc (.cells #[.int .i64 z58.f0, .int .i64 z58.f1, .string z58.f2, .slice A9 z58.f3.length c9] 58)).cell? ⟨w6.heap.size, 0, none⟩ = some (.int .i64 h.f0) := (blk_cell B_7 0).trans rfl
  have d71 : (((w6.alloc (.cells #[.int .i64 h.f0, .int .i64 h.f1, .string h.f2, .slice A7 h.f3.length c7] 58)).alloc (.cells #[.int .i64 b.f0, .int .i64 b.f1, .string b.f2, .slice A8 b.f3.length c8] 58)).alloc (.cells #[.int .i64 z58.f0, .int .i64 z58.f1, .string z58.f2, .slice A9 z58.f3.length c9] 58)).cell? ⟨w6.heap.size, 1, none⟩ = some (.int .i64 h.f1) := (blk_cell B_7 1).trans rfl
  have d72 : (((w6.alloc (.cells #[.int .i64 h.f0, .int .i64 h.f1, .string h.f2, .slice A7 h.f3.length c7] 58)).alloc (.cells #[.int .i64 b.f0, .int .i64 b.f1, .string b.f2, .slice A8 b.f3.length c8] 58)).alloc (.cells #[.int .i64 z58.f0, .int .i64 z58.f1, .string z58.f2, .slice A9 z58.f3.length c9] 58)).cell? ⟨w6.heap.size, 2, none⟩ = some (.string h.f2) := (blk_cell B_7 2).trans rfl
  have d73 : (((w6.alloc (.cells #[.int .i64 h.f0, .int .i64 h.f1, .string h.f2, .slice A7 h.f3.length c7] 58)).alloc (.cells #[.int .i64 b.f0, .int .i64 b.f1, .string b.f2, .slice A8 b.f3.length c8] 58)).alloc (.cells #[.int .i64 z58.f0, .int .i64 z58.f1, .string z58.f2, .slice A9 z58.f3.length c9] 58)).cell? ⟨w6.heap.size, 3, none⟩ = some (.slice A7 h.f3.length c7) := (blk_cell B_7 3).trans rfl
  have d80 : (((w6.alloc (.cells #[.int .i64 h.f0, .int .i64 h.f1, .string h.f2, .slice A7 h.f3.length c7] 58)).alloc (.cells #[.int .i64 b.f0, .int .i64 b.f1, .string b.f2, .slice A8 b.f3.length c8] 58)).alloc (.cells #[.int .i64 z58.f0, .int .i64 z58.f1, .string z58.f2, .slice A9 z58.f3.length c9] 58)).cell? ⟨w6.heap.size + 1, 0, none⟩ = some (.int .i64 b.f0) := (blk_cell B_8 0).trans rfl
  have d81 : (((w6.alloc (.cells #[.int .i64 h.f0, .int .i64 h.f1, .string h.f2, .slice A7 h.f3.length c7] 58)).alloc (.cells #[.int .i64 b.f0, .int .i64 b.f1, .string b.f2, .slice A8 b.f3.length c8] 58)).alloc (.cells #[.int .i64 z58.f0, .int .i64 z58.f1, .string z58.f2, .slice A9 z58.f3.length c9] 58)).cell? ⟨w6.heap.size + 1, 1, none⟩ = some (.int .i64 b.f1) := (blk_cell B_8 1).trans rfl
  have d82 : (((w6.alloc (.cells #[.int .i64 h.f0, .int .i64 h.f1, .string h.f2, .slice A7 h.f3.length c7] 58)).alloc (.cells #[.int .i64 b.f0, .int .i64 b.f1, .string b.f2, .slice A8 b.f3.length c8] 58)).alloc (.cells #[.int .i64 z58.f0, .int .i64 z58.f1, .string z58.f2, .slice A9 z58.f3.length c9] 58)).cell? ⟨w6.heap.size + 1, 2, none⟩ = some (.string b.f2) := (blk_cell B_8 2).trans rfl
  have d83 : (((w6.alloc (.cells #[.int .i64 h.f0, .int .i64 h.f1, .string h.f2, .slice A7 h.f3.length c7] 58)).alloc (.cells #[.int .i64 b.f0, .int .i64 b.f1, .string b.f2, .slice A8 b.f3.length c8] 58)).alloc (.cells #[.int .i64 z58.f0, .int .i64 z58.f1, .string z58.f2, .slice A9 z58.f3.length c9] 58)).cell? ⟨w6.heap.size + 1, 3, none⟩ = some (.slice A8 b.f3.length c8) := (blk_cell B_8 3).trans rfl
  replace HB := Aside0.mk HB
  replace B_3 := Aside0.mk B_3
  replace B_4 := Aside0.mk B_4
  replace B_6 := Aside0.mk B_6
  replace B_7 := Aside0.mk B_7
  replace B_8 := Aside0.mk B_8
  replace B_9 := Aside0.mk B_9
  replace F_h := Aside0.mk F_h
  replace F_b := Aside0.mk F_b
  replace F_x := Aside0.mk F_x
  replace F_y := Aside0.mk F_y
  go_wp2_with fail
  replace HB := HB.out
  replace B_3 := B_3.out
  replace B_4 := B_4.out
  replace B_6 := B_6.out
  replace B_7 := B_7.out
  replace B_8 := B_8.out
  replace B_9 := B_9.out
  replace F_h := F_h.out
  replace F_b := F_b.out
  replace F_x := F_x.out
  replace F_y := F_y.out
  clear d30 d31 d32 d33 d40 d41 d42 d43 d70 d71 d72 d73 d80 d81 d82 d83
  refine (same_calls h (by have := hszh.out; omega) _ _ _ _ _ (Kd.F_now F_x) hc7.out (Kd.F_now F_h) hc1.out).mono ?_
  rintro e w7 ⟨rfl, hb⟩
  replace HB := below_step HB hb
  replace B_3 := blk_below B_3 hb
  replace B_4 := blk_below B_4 hb
  replace B_6 := blk_below B_6 hb
  replace B_7 := blk_below B_7 hb
  replace B_8 := blk_below B_8 hb
  replace B_9 := blk_below B_9 hb
  replace F_h := Kd.F_below F_h hb
  replace F_b := Kd.F_below F_b hb
  replace F_x := Kd.F_below F_x hb
  replace F_y := Kd.F_below F_y hb
  clear hb
  have d30 : w7.cell? ⟨w4.heap.size, 0, none⟩ = some (.int .i64 h.f0) := (blk_cell B_3 0).trans rfl
  have d31 : w7.cell? ⟨w4.heap.size, 1, none⟩ = some (.int .i64 h.f1) := (blk_cell B_3 1).trans rfl
  have d32 : w7.cell? ⟨w4.heap.size, 2, none⟩ = some (.string h.f2) := (blk_cell B_3 2).trans rfl
  have d33 : w7.cell? ⟨w4.heap.size, 3, none⟩ = some (.slice A1 h.f3.length c1) := (blk_cell B_3 3).trans rfl
  have d40 : w7.cell? ⟨w4.heap.size + 1, 0, none⟩ = some (.int .i64 b.f0) := (blk_cell B_4 0).trans rfl
  have d41 : w7.cell? ⟨w4.heap.size + 1, 1, none⟩ = some (.int .i64 b.f1) := (blk_cell B_4 1).trans rfl
  have d42 : w7.cell? ⟨w4.heap.size + 1, 2, none⟩ = some (.string b.f2) := (blk_cell B_4 2).trans rfl
  have d43 : w7.cell? ⟨w4.heap.size + 1, 3, none⟩ = some (.slice A2 b.f3.length c2) := (blk_cell B_4 3).trans rfl
  have d70 : w7.cell? ⟨w6.heap.size, 0, none⟩ = some (.int .i64 h.f0) := (blk_cell B_7 0).trans rfl
  have d71 : w7.cell? ⟨w6.heap.size, 1, none⟩ = some (.int .i64 h.f1) := (blk_cell B_7 1).trans rfl
  have d72 : w7.cell? ⟨w6.heap.size, 2, none⟩ = some (.string h.f2) := (blk_cell B_7 2).trans rfl
  have d73 : w7.cell? ⟨w6.heap.size, 3, none⟩ = some (.slice A7 h.f3.length c7) := (blk_cell B_7 3).trans rfl
  have d80 : w7.cell? ⟨w6.heap.size + 1, 0, none⟩ = some (.int .i64 b.f0) := (blk_cell B_8 0).trans rfl
  have d81 : w7.cell? ⟨w6.heap.size + 1, 1, none⟩ = some (.int .i64 b.f1) := (blk_cell B_8 1).trans rfl
  have d82 : w7.cell? ⟨w6.heap.size + 1, 2, none⟩ = some (.string b.f2) := (blk_cell B_8 2).trans rfl
  have d83 : w7.cell? ⟨w6.heap.size + 1, 3, none⟩ = some (.slice A8 b.f3.length c8) := (blk_cell B_8 3).trans rfl
  replace HB := Aside0.mk HB
  replace B_3 := Aside0.mk B_3
  replace B_4 := Aside0.mk B_4
  replace B_6 := Aside0.mk B_6
  replace B_7 := Aside0.mk B_7
  replace B_8 := Aside0.mk B_8
  replace B_9 := Aside0.mk B_9
  replace F_h := Aside0.mk F_h
  replace F_b := Aside0.mk F_b
  replace F_x := Aside0.mk F_x
  replace F_y := Aside0.mk F_y
  go_wp2_with fail
  replace HB := HB.out
  replace B_3 := B_3.out
  replace B_4 := B_4.out
  replace B_6 := B_6.out
  replace B_7 := B_7.out
  replace B_8 := B_8.out
  replace B_9 := B_9.out
  replace F_h := F_h.out
  replace F_b := F_b.out
  replace F_x := F_x.out
  replace F_y := F_y.out
  clear d30 d31 d32 d33 d40 d41 d42 d43 d70 d71 d72 d73 d80 d81 d82 d83
  refine (same_calls b (by have := hszb.out; omega) _ _ _ _ _ (Kd.F_now F_y) hc8.out (Kd.F_now F_b) hc2.out).mono ?_
  rintro e w8 ⟨rfl, hb⟩
  replace HB := below_step HB hb
  replace B_3 := blk_below B_3 hb
  replace B_4 := blk_below B_4 hb
  replace B_6 := blk_below B_6 hb
  replace B_7 := blk_below B_7 hb
  replace B_8 := blk_below B_8 hb
  replace B_9 := blk_below B_9 hb
  replace F_h := Kd.F_below F_h hb
  replace F_b := Kd.F_below F_b hb
  replace F_x := Kd.F_below F_x hb
  replace F_y := Kd.F_below F_y hb
  clear hb
  have d30 : w8.cell? ⟨w4.heap.size, 0, none⟩ = some (.int .i64 h.f0) := (blk_cell B_3 0).trans rfl
  have d31 : w8.cell? ⟨w4.heap.size, 1, none⟩ = some (.int .i64 h.f1) := (blk_cell B_3 1).trans rfl
  have d32 : w8.cell? ⟨w4.heap.size, 2, none⟩ = some (.string h.f2) := (blk_cell B_3 2).trans rfl
  have d33 : w8.cell? ⟨w4.heap.size, 3, none⟩ = some (.slice A1 h.f3.length c1) := (blk_cell B_3 3).trans rfl
  have d40 : w8.cell? ⟨w4.heap.size + 1, 0, none⟩ = some (.int .i64 b.f0) := (blk_cell B_4 0).trans rfl
  have d41 : w8.cell? ⟨w4.heap.size + 1, 1, none⟩ = some (.int .i64 b.f1) := (blk_cell B_4 1).trans rfl
  have d42 : w8.cell? ⟨w4.heap.size + 1, 2, none⟩ = some (.string b.f2) := (blk_cell B_4 2).trans rfl
  have d43 : w8.cell? ⟨w4.heap.size + 1, 3, none⟩ = some (.slice A2 b.f3.length c2) := (blk_cell B_4 3).trans rfl
  have d70 : w8.cell? ⟨w6.heap.size, 0, none⟩ = some (.int .i64 h.f0) := (blk_cell B_7 0).trans rfl
  have d71 : w8.cell? ⟨w6.heap.size, 1, none⟩ = some (.int .i64 h.f1) := (blk_cell B_7 1).trans rfl
  have d72 : w8.cell? ⟨w6.heap.size, 2, none⟩ = some (.string h.f2) := (blk_cell B_7 2).trans rfl
  have d73 : w8.cell? ⟨w6.heap.size, 3, none⟩ = some (.slice A7 h.f3.length c7) := (blk_cell B_7 3).trans rfl
  have d80 : w8.cell? ⟨w6.heap.size + 1, 0, none⟩ = some (.int .i64 b.f0) := (blk_cell B_8 0).trans rfl
  have d81 : w8.cell? ⟨w6.heap.size + 1, 1, none⟩ = some (.int .i64 b.f1) := (blk_cell B_8 1).trans rfl
  have d82 : w8.cell? ⟨w6.heap.size + 1, 2, none⟩ = some (.string b.f2) := (blk_cell B_8 2).trans rfl
  have d83 : w8.cell? ⟨w6.heap.size + 1, 3, none⟩ = some (.slice A8 b.f3.length c8) := (blk_cell B_8 3).trans rfl
  replace HB := Aside0.mk HB
  replace B_3 := Aside0.mk B_3
  replace B_4 := Aside0.mk B_4
  replace B_6 := Aside0.mk B_6
  replace B_7 := Aside0.mk B_7
  replace B_8 := Aside0.mk B_8
  replace B_9 := Aside0.mk B_9
  replace F_h := Aside0.mk F_h
  replace F_b := Aside0.mk F_b
  replace F_x := Aside0.mk F_x
  replace F_y := Aside0.mk F_y
  go_wp2_with fail
  replace HB := HB.out
  replace B_3 := B_3.out
  replace B_4 := B_4.out
  replace B_6 := B_6.out
  replace B_7 := B_7.out
  replace B_8 := B_8.out
  replace B_9 := B_9.out
  replace F_h := F_h.out
  replace F_b := F_b.out
  replace F_x := F_x.out
  replace F_y := F_y.out
  clear d30 d31 d32 d33 d40 d41 d42 d43 d70 d71 d72 d73 d80 d81 d82 d83
  refine (kind_calls b _ _ _).mono ?_
  rintro e w9 ⟨rfl, hb⟩
  replace HB := below_step HB hb
  replace B_3 := blk_below B_3 hb
  replace B_4 := blk_below B_4 hb
  replace B_6 := blk_below B_6 hb
  replace B_7 := blk_below B_7 hb
  replace B_8 := blk_below B_8 hb
  replace B_9 := blk_below B_9 hb
  replace F_h := Kd.F_below F_h hb
  replace F_b := Kd.F_below F_b hb
  replace F_x := Kd.F_below F_x hb
  replace F_y := Kd.F_below F_y hb
  rw [hkv.out]
  clear hb
  replace HB := Aside0.mk HB
  replace B_3 := Aside0.mk B_3
  replace B_4 := Aside0.mk B_4
  replace B_6 := Aside0.mk B_6
  replace B_7 := Aside0.mk B_7
  replace B_8 := Aside0.mk B_8
  replace B_9 := Aside0.mk B_9
  replace F_h := Aside0.mk F_h
  replace F_b := Aside0.mk F_b
  replace F_x := Aside0.mk F_x
  replace F_y := Aside0.mk F_y
  go_wp2_with fail
  replace HB := HB.out
  replace B_3 := B_3.out
  replace B_4 := B_4.out
  replace B_6 := B_6.out
  replace B_7 := B_7.out
  replace B_8 := B_8.out
  replace B_9 := B_9.out
  replace F_h := F_h.out
  replace F_b := F_b.out
  replace F_x := F_x.out
  replace F_y := F_y.out
  go_ret
  exact ⟨rfl, HB⟩
set_option maxHeartbeats 8000000 in
set_option maxRecDepth 100000 in
theorem cl_ok4 (l : List S146) (A : Option Addr) (c : Nat) (w : World) (hC : Kd.C k146 w A l.length l) (hc : l.length ≤ c) (hg : ¬ 60 < l.length) (t : S58) (hgood : ∀ (A : Option Addr) (c : Nat) (w : World), Kd.C k146 w A l.length l → l.length ≤ c → Calls Try.prog 33 #[.slice A l.length c] w (RetT t w)) (hs : szT t ≤ 500) (h b : S58) (hr : clauseR t = ⟨h, b, 0, z58⟩) (hr2 : clauseR (tCl h b) = ⟨h, b, 0, z58⟩) (h3 : h.f0 = 4) (hk : 0 ≤ kindV b) (hsh : szT h ≤ 500) (hsb : szT b ≤ 1000) :
    Calls Try.prog 7 #[.slice A l.length c] w fun e w' => e = .returned (.bool true) ∧ Below w.heap.size w w' := by
  have hkk : Aside0 (0 ≤ kindV b) := ⟨hk⟩
  obtain ⟨v, hv⟩ : ∃ v, kindV b = v := ⟨_, rfl⟩
  rw [hv] at hk
  have hkv := Aside0.mk hv
  have k1 : decide (v ≥ 0) = true := decide_eq_true hk
  have k2 : decide (0 ≤ v) = true := decide_eq_true hk
  have hsz : Aside0 (szT (tCl h b) ≤ 400000) := ⟨by rw [tCl_sz]; omega⟩
  have hszh : Aside0 (szT h ≤ 500) := ⟨hsh⟩
  have hszb : Aside0 (szT b ≤ 1000) := ⟨hsb⟩
  clear hkk hv hsh hsb
  have e1 : (h.f0 == 3) = false := by simpa using (by omega : ¬ h.f0 = 3)
  have e2 : (h.f0 == 4) = true := by simpa using h3
  clear h3
  replace hgood := Aside0.mk hgood
  replace hs := Aside0.mk hs
  have HB := Below.refl w.heap.size w
  replace hC := Aside0.mk hC
  replace hc := Aside0.mk hc
  have HG : Aside0 (decide (60 < l.length) = false) := ⟨by simpa using hg⟩
  replace hg := Aside0.mk hg
  go_enter Try.func7, Try.ntmps7
  replace HB := Aside0.mk HB
  go_wp2_with fail
  replace HB := HB.out
  refine (alive_calls _).mono ?_
  rintro e w1 ⟨rfl, hb⟩
  replace HB := below_step HB hb
  clear hb
  replace HB := Aside0.mk HB
  go_wp2_with fail
  replace HB := HB.out
  refine (great_calls l A c _).mono ?_
  rintro e w2 ⟨rfl, hb⟩
  replace HB := below_step HB hb
  rw [HG.out]
  clear hb
  replace HB := Aside0.mk HB
  go_wp2_with fail
  replace HB := HB.out
  have hC2 := Kd.C_below hC.out HB
  refine (hgood.out A c _ hC2 hc.out).mono ?_
  rintro e w3 ⟨At, ct, rfl, hct, F_t, hb⟩
  replace HB := below_step HB hb
  clear hC2
  replace hct := Aside0.mk hct
  clear hb
  replace HB := Aside0.mk HB
  replace F_t := Aside0.mk F_t
  go_wp2_with fail
  replace HB := HB.out
  replace F_t := F_t.out
  refine (Clause_c hr (by have := hs.out; omega) At ct w3 (fun q => q < w3.heap.size) (fun _ h => h) (Kd.F_mono (Kd.F_bound F_t) (fun q hq => hq.2)) hct.out).mono ?_
  rintro e w4 ⟨A1, c1, A2, c2, A3, c3, rfl, hc1, hc2, hc3, F_h, F_b, F_u, hb⟩
  replace HB := below_step HB hb
  replace F_t := Kd.F_below F_t hb
  clear F_t F_u hct
  replace hc1 := Aside0.mk hc1
  replace hc2 := Aside0.mk hc2
  replace hc3 := Aside0.mk hc3
  clear hb
  have hal : Below w4.heap.size w4 (((w4.alloc (.cells #[.int .i64 h.f0, .int .i64 h.f1, .string h.f2, .slice A1 h.f3.length c1] 58)).alloc (.cells #[.int .i64 b.f0, .int .i64 b.f1, .string b.f2, .slice A2 b.f3.length c2] 58)).alloc (.cells #[.int .i64 z58.f0, .int .i64 z58.f1, .string z58.f2, .slice A3 z58.f3.length c3] 58)) := below_alloc (below_alloc (below_alloc (Below.refl _ _) (.cells #[.int .i64 h.f0, .int .i64 h.f1, .string h.f2, .slice A1 h.f3.length c1] 58)) (.cells #[.int .i64 b.f0, .int .i64 b.f1, .string b.f2, .slice A2 b.f3.length c2] 58)) (.cells #[.int .i64 z58.f0, .int .i64 z58.f1, .string z58.f2, .slice A3 z58.f3.length c3] 58)
  replace HB := below_step HB hal
  replace F_h := Kd.F_below F_h hal
  replace F_b := Kd.F_below F_b hal
  have B_3 := blk_alloc (blk_alloc (heap_alloc_new w4 (.cells #[.int .i64 h.f0, .int .i64 h.f1, .string h.f2, .slice A1 h.f3.length c1] 58)) (.cells #[.int .i64 b.f0, .int .i64 b.f1, .string b.f2, .slice A2 b.f3.length c2] 58)) (.cells #[.int .i64 z58.f0, .int .i64 z58.f1, .string z58.f2, .slice A3 z58.f3.length c3] 58)
  have hz : w4.heap.size = w4.heap.size + 0 := by rfl
  skip
  clear hz
  have B_4 := blk_alloc (heap_alloc_new (w4.alloc (.cells #[.int .i64 h.f0, .int .i64 h.f1, .string h.f2, .slice A1 h.f3.length c1] 58)) (.cells #[.int .i64 b.f0, .int .i64 b.f1, .string b.f2, .slice A2 b.f3.length c2] 58)) (.cells #[.int .i64 z58.f0, .int .i64 z58.f1, .string z58.f2, .slice A3 z58.f3.length c3] 58)
  have hz : (w4.alloc (.cells #[.int .i64 h.f0, .int .i64 h.f1, .string h.f2, .slice A1 h.f3.length c1] 58)).heap.size = w4.heap.size + 1 := by simp only [al_sz]
  rw [hz] at B_4
  clear hz
  have B_6 := heap_alloc_new ((w4.alloc (.cells #[.int .i64 h.f0, .int .i64 h.f1, .string h.f2, .slice A1 h.f3.length c1] 58)).alloc (.cells #[.int .i64 b.f0, .int .i64 b.f1, .string b.f2, .slice A2 b.f3.length c2] 58)) (.cells #[.int .i64 z58.f0, .int .i64 z58.f1, .string z58.f2, .slice A3 z58.f3.length c3] 58)
  have hz : ((w4.alloc (.cells #[.int .i64 h.f0, .int .i64 h.f1, .string h.f2, .slice A1 h.f3.length c1] 58)).alloc (.cells #[.int .i64 b.f0, .int .i64 b.f1, .string b.f2, .slice A2 b.f3.length c2] 58)).heap.size = w4.heap.size + 2 := by simp only [al_sz]
  rw [hz] at B_6
  clear hz
  clear hal
  have d30 : (((w4.alloc (.cells #[.int .i64 h.f0, .int .i64 h.f1, .string h.f2, .slice A1 h.f3.length c1] 58)).alloc (.cells #[.int .i64 b.f0, .int .i64 b.f1, .string b.f2, .slice A2 b.f3.length c2] 58)).alloc (.cells #[.int .i64 z58.f0, .int .i64 z58.f1, .string z58.f2, .slice A3 z58.f3.length c3] 58)).cell? ⟨w4.heap.size, 0, none⟩ = some (.int .i64 h.f0) := (blk_cell B_3 0).trans rfl
  have d31 : (((w4.alloc (.cells #[.int .i64 h.f0, .int .i64 h.f1, .string h.f2, .slice A1 h.f3.length c1] 58)).alloc (.cells #[.int .i64 b.f0, .int .i64 b.f1, .string b.f2, .slice A2 b.f3.length c2] 58)).alloc (.cells #[.int .i64 z58.f0, .int .i64 z58.f1, .string z58.f2, .slice A3 z58.f3.length c3] 58)).cell? ⟨w4.heap.size, 1, none⟩ = some (.int .i64 h.f1) := (blk_cell B_3 1).trans rfl
  have d32 : (((w4.alloc (.cells #[.int .i64 h.f0, .int .i64 h.f1, .string h.f2, .slice A1 h.f3.length c1] 58)).alloc (.cells #[.int .i64 b.f0, .int .i64 b.f1, .string b.f2, .slice A2 b.f3.length c2] 58)).alloc (.cells #[.int .i64 z58.f0, .int .i64 z58.f1, .string z58.f2, .slice A3 z58.f3.length c3] 58)).cell? ⟨w4.heap.size, 2, none⟩ = some (.string h.f2) := (blk_cell B_3 2).trans rfl
  have d33 : (((w4.alloc (.cells #[.int .i64 h.f0, .int .i64 h.f1, .string h.f2, .slice A1 h.f3.length c1] 58)).alloc (.cells #[.int .i64 b.f0, .int .i64 b.f1, .string b.f2, .slice A2 b.f3.length c2] 58)).alloc (.cells #[.int .i64 z58.f0, .int .i64 z58.f1, .string z58.f2, .slice A3 z58.f3.length c3] 58)).cell? ⟨w4.heap.size, 3, none⟩ = some (.slice A1 h.f3.length c1) := (blk_cell B_3 3).trans rfl
  have d40 : (((w4.alloc (.cells #[.int .i64 h.f0, .int .i64 h.f1, .string h.f2, .slice A1 h.f3.length c1] 58)).alloc (.cells #[.int .i64 b.f0, .int .i64 b.f1, .string b.f2, .slice A2 b.f3.length c2] 58)).alloc (.cells #[.int .i64 z58.f0, .int .i64 z58.f1, .string z58.f2, .slice A3 z58.f3.length c3] 58)).cell? ⟨w4.heap.size + 1, 0, none⟩ = some (.int .i64 b.f0) := (blk_cell B_4 0).trans rfl
  have d41 : (((w4.alloc (.cells #[.int .i64 h.f0, .int .i64 h.f1, .string h.f2, .slice A1 h.f3.length c1] 58)).alloc (.cells #[.int .i64 b.f0, .int .i64 b.f1, .string b.f2, .slice A2 b.f3.length c2] 58)).alloc (.cells #[.int .i64 z58.f0, .int .i64 z58.f1, .string z58.f2, .slice A3 z58.f3.length c3] 58)).cell? ⟨w4.heap.size + 1, 1, none⟩ = some (.int .i64 b.f1) := (blk_cell B_4 1).trans rfl
  have d42 : (((w4.alloc (.cells #[.int .i64 h.f0, .int .i64 h.f1, .string h.f2, .slice A1 h.f3.length c1] 58)).alloc (.cells #[.int .i64 b.f0, .int .i64 b.f1, .string b.f2, .slice A2 b.f3.length c2] 58)).alloc (.cells #[.int .i64 z58.f0, .int .i64 z58.f1, .string z58.f2, .slice A3 z58.f3.length c3] 58)).cell? ⟨w4.heap.size + 1, 2, none⟩ = some (.string b.f2) := (blk_cell B_4 2).trans rfl
  have d43 : (((w4.alloc (.cells #[.int .i64 h.f0, .int .i64 h.f1, .string h.f2, .slice A1 h.f3.length c1] 58)).alloc (.cells #[.int .i64 b.f0, .int .i64 b.f1, .string b.f2, .slice A2 b.f3.length c2] 58)).alloc (.cells #[.int .i64 z58.f0, .int .i64 z58.f1, .string z58.f2, .slice A3 z58.f3.length c3] 58)).cell? ⟨w4.heap.size + 1, 3, none⟩ = some (.slice A2 b.f3.length c2) := (blk_cell B_4 3).trans rfl
  replace HB := Aside0.mk HB
  replace B_3 := Aside0.mk B_3
  replace B_4 := Aside0.mk B_4
  replace B_6 := Aside0.mk B_6
  replace F_h := Aside0.mk F_h
  replace F_b := Aside0.mk F_b
  go_wp2_with fail
  replace HB := HB.out
  replace B_3 := B_3.out
  replace B_4 := B_4.out
  replace B_6 := B_6.out
  replace F_h := F_h.out
  replace F_b := F_b.out
  clear d30 d31 d32 d33 d40 d41 d42 d43
  have hal : Below (((w4.alloc (.cells #[.int .i64 h.f0, .int .i64 h.f1, .string h.f2, .slice A1 h.f3.length c1] 58)).alloc (.cells #[.int .i64 b.f0, .int .i64 b.f1, .string b.f2, .slice A2 b.f3.length c2] 58)).alloc (.cells #[.int .i64 z58.f0, .int .i64 z58.f1, .string z58.f2, .slice A3 z58.f3.length c3] 58)).heap.size (((w4.alloc (.cells #[.int .i64 h.f0, .int .i64 h.f1, .string h.f2, .slice A1 h.f3.length c1] 58)).alloc (.cells #[.int .i64 b.f0, .int .i64 b.f1, .string b.f2, .slice A2 b.f3.length c2] 58)).alloc (.cells #[.int .i64 z58.f0, .int .i64 z58.f1, .string z58.f2, .slice A3 z58.f3.length c3] 58)) ((((w4.alloc (.cells #[.int .i64 h.f0, .int .i64 h.f1, .string h.f2, .slice A1 h.f3.length c1] 58)).alloc (.cells #[.int .i64 b.f0, .int .i64 b.f1, .string b.f2, .slice A2 b.f3.length c2] 58)).alloc (.cells #[.int .i64 z58.f0, .int .i64 z58.f1, .string z58.f2, .slice A3 z58.f3.length c3] 58)).alloc (.cells #[.int .i64 h.f0, .int .i64 h.f1, .string h.f2, .slice A1 h.f3.length c1, .int .i64 b.f0, .int .i64 b.f1, .string b.f2, .slice A2 b.f3.length c2] 58)) := below_alloc (Below.refl _ _) (.cells #[.int .i64 h.f0, .int .i64 h.f1, .string h.f2, .slice A1 h.f3.length c1, .int .i64 b.f0, .int .i64 b.f1, .string b.f2, .slice A2 b.f3.length c2] 58)
  replace HB := below_step HB hal
  replace B_3 := blk_below B_3 hal
  replace B_4 := blk_below B_4 hal
  replace B_6 := blk_below B_6 hal
  replace F_h := Kd.F_below F_h hal
  replace F_b := Kd.F_below F_b hal
  have B_L := heap_alloc_new (((w4.alloc (.cells #[.int .i64 h.f0, .int .i64 h.f1, .string h.f2, .slice A1 h.f3.length c1] 58)).alloc (.cells #[.int .i64 b.f0, .int .i64 b.f1, .string b.f2, .slice A2 b.f3.length c2] 58)).alloc (.cells #[.int .i64 z58.f0, .int .i64 z58.f1, .string z58.f2, .slice A3 z58.f3.length c3] 58)) (.cells #[.int .i64 h.f0, .int .i64 h.f1, .string h.f2, .slice A1 h.f3.length c1, .int .i64 b.f0, .int .i64 b.f1, .string b.f2, .slice A2 b.f3.length c2] 58)
  have hz : (((w4.alloc (.cells #[.int .i64 h.f0, .int .i64 h.f1, .string h.f2, .slice A1 h.f3.length c1] 58)).alloc (.cells #[.int .i64 b.f0, .int .i64 b.f1, .string b.f2, .slice A2 b.f3.length c2] 58)).alloc (.cells #[.int .i64 z58.f0, .int .i64 z58.f1, .string z58.f2, .slice A3 z58.f3.length c3] 58)).heap.size = w4.heap.size + 3 := by simp only [al_sz]
  rw [hz] at B_L
  clear hz
  clear hal
  refine (f_calls _ _ _ _ _).mono ?_
  rintro e w5 ⟨rfl, hb⟩
  replace HB := below_step HB hb
  replace B_3 := blk_below B_3 hb
  replace B_4 := blk_below B_4 hb
  replace B_6 := blk_below B_6 hb
  replace B_L := blk_below B_L hb
  replace F_h := Kd.F_below F_h hb
  replace F_b := Kd.F_below F_b hb
  have F_1 := lit2 (x := h) (y := b) B_L hc1.out (Kd.F_mono (Kd.F_bound F_h) (ok' := fun q => q < w5.heap.size) (fun q hq => hq.2)) hc2.out (Kd.F_mono (Kd.F_bound F_b) (ok' := fun q => q < w5.heap.size) (fun q hq => hq.2))
  clear B_L
  clear hb
  replace HB := Aside0.mk HB
  replace B_3 := Aside0.mk B_3
  replace B_4 := Aside0.mk B_4
  replace B_6 := Aside0.mk B_6
  replace F_h := Aside0.mk F_h
  replace F_b := Aside0.mk F_b
  replace F_1 := Aside0.mk F_1
  go_wp2_with fail
  replace HB := HB.out
  replace B_3 := B_3.out
  replace B_4 := B_4.out
  replace B_6 := B_6.out
  replace F_h := F_h.out
  replace F_b := F_b.out
  replace F_1 := F_1.out
  refine (Clause_c (x := tCl h b) hr2 hsz.out (some ⟨w4.heap.size + 3, 0, none⟩) 2 w5 (fun q => q < w5.heap.size) (fun _ h => h) (Kd.F_mono (Kd.F_bound F_1) (fun q hq => hq.2)) (Nat.le_refl 2)).mono ?_
  rintro e w6 ⟨A7, c7, A8, c8, A9, c9, rfl, hc7, hc8, hc9, F_x, F_y, F_z, hb⟩
  replace HB := below_step HB hb
  replace B_3 := blk_below B_3 hb
  replace B_4 := blk_below B_4 hb
  replace B_6 := blk_below B_6 hb
  replace F_h := Kd.F_below F_h hb
  replace F_b := Kd.F_below F_b hb
  replace F_1 := Kd.F_below F_1 hb
  clear F_1 F_z hc9
  replace hc7 := Aside0.mk hc7
  replace hc8 := Aside0.mk hc8
  clear hb
  have hal : Below w6.heap.size w6 (((w6.alloc (.cells #[.int .i64 h.f0, .int .i64 h.f1, .string h.f2, .slice A7 h.f3.length c7] 58)).alloc (.cells #[.int .i64 b.f0, .int .i64 b.f1, .string b.f2, .slice A8 b.f3.length c8] 58)).alloc (.cells #[.int .i64 z58.f0, .int .i64 z58.f1, .string z58.f2, .slice A9 z58.f3.length c9] 58)) := below_alloc (below_alloc (below_alloc (Below.refl _ _) (.cells #[.int .i64 h.f0, .int .i64 h.f1, .string h.f2, .slice A7 h.f3.length c7] 58)) (.cells #[.int .i64 b.f0, .int .i64 b.f1, .string b.f2, .slice A8 b.f3.length c8] 58)) (.cells #[.int .i64 z58.f0, .int .i64 z58.f1, .string z58.f2, .slice A9 z58.f3.length c9] 58)
  replace HB := below_step HB hal
  replace B_3 := blk_below B_3 hal
  replace B_4 := blk_below B_4 hal
  replace B_6 := blk_below B_6 hal
  replace F_h := Kd.F_below F_h hal
  replace F_b := Kd.F_below F_b hal
  replace F_x := Kd.F_below F_x hal
  replace F_y := Kd.F_below F_y hal
  have B_7 := blk_alloc (blk_alloc (heap_alloc_new w6 (.cells #[.int .i64 h.f0, .int .i64 h.f1, .string h.f2, .slice A7 h.f3.length c7] 58)) (.cells #[.int .i64 b.f0, .int .i64 b.f1, .string b.f2, .slice A8 b.f3.length c8] 58)) (.cells #[.int .i64 z58.f0, .int .i64 z58.f1, .string z58.f2, .slice A9 z58.f3.length c9] 58)
  have hz : w6.heap.size = w6.heap.size + 0 := by rfl
  skip
  clear hz
  have B_8 := blk_alloc (heap_alloc_new (w6.alloc (.cells #[.int .i64 h.f0, .int .i64 h.f1, .string h.f2, .slice A7 h.f3.length c7] 58)) (.cells #[.int .i64 b.f0, .int .i64 b.f1, .string b.f2, .slice A8 b.f3.length c8] 58)) (.cells #[.int .i64 z58.f0, .int .i64 z58.f1, .string z58.f2, .slice A9 z58.f3.length c9] 58)
  have hz : (w6.alloc (.cells #[.int .i64 h.f0, .int .i64 h.f1, .string h.f2, .slice A7 h.f3.length c7] 58)).heap.size = w6.heap.size + 1 := by simp only [al_sz]
  rw [hz] at B_8
  clear hz
  have B_9 := heap_alloc_new ((w6.alloc (.cells #[.int .i64 h.f0, .int .i64 h.f1, .string h.f2, .slice A7 h.f3.length c7] 58)).alloc (.cells #[.int .i64 b.f0, .int .i64 b.f1, .string b.f2, .slice A8 b.f3.length c8] 58)) (.cells #[.int .i64 z58.f0, .int .i64 z58.f1, .string z58.f2, .slice A9 z58.f3.length c9] 58)
  have hz : ((w6.alloc (.cells #[.int .i64 h.f0, .int .i64 h.f1, .string h.f2, .slice A7 h.f3.length c7] 58)).alloc (.cells #[.int .i64 b.f0, .int .i64 b.f1, .string b.f2, .slice A8 b.f3.length c8] 58)).heap.size = w6.heap.size + 2 := by simp only [al_sz]
  rw [hz] at B_9
  clear hz
  clear hal
  have d30 : (((w6.alloc (.cells #[.int .i64 h.f0, .int .i64 h.f1, .string h.f2, .slice A7 h.f3.length c7] 58)).alloc (.cells #[.int .i64 b.f0, .int .i64 b.f1, .string b.f2, .slice A8 b.f3.length c8] 58)).alloc (.cells #[.int .i64 z58.f0, .int .i64 z58.f1, .string z58.f2, .slice A9 z58.f3.length c9] 58)).cell? ⟨w4.heap.size, 0, none⟩ = some (.int .i64 h.f0) := (blk_cell B_3 0).trans rfl
  have d31 : (((w6.alloc (.cells #[.int .i64 h.f0, .int .i64 h.f1, .string h.f2, .slice A7 h.f3.length c7] 58)).alloc (.cells #[.int .i64 b.f0, .int .i64 b.f1, .string b.f2, .slice A8 b.f3.length c8] 58)).alloc (.cells #[.int .i64 z58.f0, .int .i64 z58.f1, .string z58.f2, .slice A9 z58.f3.length c9] 58)).cell? ⟨w4.heap.size, 1, none⟩ = some (.int .i64 h.f1) := (blk_cell B_3 1).trans rfl
  have d32 : (((w6.alloc (.cells #[.int .i64 h.f0, .int .i64 h.f1, .string h.f2, .slice A7 h.f3.length c7] 58)).alloc (.cells #[.int .i64 b.f0, .int .i64 b.f1, .string b.f2, .slice A8 b.f3.length c8] 58)).alloc (.cells #[.int .i64 z58.f0, .int .i64 z58.f1, .string z58.f2, .slice A9 z58.f3.length c9] 58)).cell? ⟨w4.heap.size, 2, none⟩ = some (.string h.f2) := (blk_cell B_3 2).trans rfl
  have d33 : (((w6.alloc (.cells #[.int .i64 h.f0, .int .i64 h.f1, .string h.f2, .slice A7 h.f3.length c7] 58)).alloc (.cells #[.int .i64 b.f0, .int .i64 b.f1, .string b.f2, .slice A8 b.f3.length c8] 58)).alloc (.cells #[.int .i64 z58.f0, .int .i64 z58.f1, .string z58.f2, .slice A9 z58.f3.length c9] 58)).cell? ⟨w4.heap.size, 3, none⟩ = some (.slice A1 h.f3.length c1) := (blk_cell B_3 3).trans rfl
  have d40 : (((w6.alloc (.cells #[.int .i64 h.f0, .int .i64 h.f1, .string h.f2, .slice A7 h.f3.length c7] 58)).alloc (.cells #[.int .i64 b.f0, .int .i64 b.f1, .string b.f2, .slice A8 b.f3.length c8] 58)).alloc (.cells #[.int .i64 z58.f0, .int .i64 z58.f1, .string z58.f2, .slice A9 z58.f3.length c9] 58)).cell? ⟨w4.heap.size + 1, 0, none⟩ = some (.int .i64 b.f0) := (blk_cell B_4 0).trans rfl
  have d41 : (((w6.alloc (.cells #[.int .i64 h.f0, .int .i64 h.f1, .string h.f2, .slice A7 h.f3.length c7] 58)).alloc (.cells #[.int .i64 b.f0, .int .i64 b.f1, .string b.f2, .slice A8 b.f3.length c8] 58)).alloc (.cells #[.int .i64 z58.f0, .int .i64 z58.f1, .string z58.f2, .slice A9 z58.f3.length c9] 58)).cell? ⟨w4.heap.size + 1, 1, none⟩ = some (.int .i64 b.f1) := (blk_cell B_4 1).trans rfl
  have d42 : (((w6.alloc (.cells #[.int .i64 h.f0, .int .i64 h.f1, .string h.f2, .slice A7 h.f3.length c7] 58)).alloc (.cells #[.int .i64 b.f0, .int .i64 b.f1, .string b.f2, .slice A8 b.f3.length c8] 58)).alloc (.cells #[.int .i64 z58.f0, .int .i64 z58.f1, .string z58.f2, .slice A9 z58.f3.length c9] 58)).cell? ⟨w4.heap.size + 1, 2, none⟩ = some (.string b.f2) := (blk_cell B_4 2).trans rfl
  have d43 : (((w6.alloc (.cells #[.int .i64 h.f0, .int .i64 h.f1, .string h.f2, .slice A7 h.f3.length c7] 58)).alloc (.cells #[.int .i64 b.f0, .int .i64 b.f1, .string b.f2, .slice A8 b.f3.length c8] 58)).alloc (.cells #[.int .i64 z58.f0, .int .i64 z58.f1, .string z58.f2, .slice A9 z58.f3.length c9] 58)).cell? ⟨w4.heap.size + 1, 3, none⟩ = some (.slice A2 b.f3.length c2) := (blk_cell B_4 3).trans rfl
  have d70 : (((w6.alloc (.cells #[.int .i64 h.f0, .int .i64 h.f1, .string h.f2, .slice A7 h.f3.length c7] 58)).alloc (.cells #[.int .i64 b.f0, .int .i64 b.f1, .string b.f2, .slice A8 b.f3.length c8] 58)).alloc (.cells #[.int .i64 z58.f0, .int .i64 z58.f1, .string z58.f2, .slice A9 z58.f3.length c9] 58)).cell? ⟨w6.heap.size, 0, none⟩ = some (.int .i64 h.f0) := (blk_cell B_7 0).trans rfl
  have d71 : (((w6.alloc (.cells #[.int .i64 h.f0, .int .i64 h.f1, .string h.f2, .slice A7 h.f3.length c7] 58)).alloc (.cells #[.int .i64 b.f0, .int .i64 b.f1, .string b.f2, .slice A8 b.f3.length c8] 58)).alloc (.cells #[.int .i64 z58.f0, .int .i64 z58.f1, .string z58.f2, .slice A9 z58.f3.length c9] 58)).cell? ⟨w6.heap.size, 1, none⟩ = some (.int .i64 h.f1) := (blk_cell B_7 1).trans rfl
  have d72 : (((w6.alloc (.cells #[.int .i64 h.f0, .int .i64 h.f1, .string h.f2, .slice A7 h.f3.length c7] 58)).alloc (.cells #[.int .i64 b.f0, .int .i64 b.f1, .string b.f2, .slice A8 b.f3.length c8] 58)).alloc (.cells #[.int .i64 z58.f0, .int .i64 z58.f1, .string z58.f2, .slice A9 z58.f3.length c9] 58)).cell? ⟨w6.heap.size, 2, none⟩ = some (.string h.f2) := (blk_cell B_7 2).trans rfl
  have d73 : (((w6.alloc (.cells #[.int .i64 h.f0, .int .i64 h.f1, .string h.f2, .slice A7 h.f3.length c7] 58)).alloc (.cells #[.int .i64 b.f0, .int .i64 b.f1, .string b.f2, .slice A8 b.f3.length c8] 58)).alloc (.cells #[.int .i64 z58.f0, .int .i64 z58.f1, .string z58.f2, .slice A9 z58.f3.length c9] 58)).cell? ⟨w6.heap.size, 3, none⟩ = some (.slice A7 h.f3.length c7) := (blk_cell B_7 3).trans rfl
  have d80 : (((w6.alloc (.cells #[.int .i64 h.f0, .int .i64 h.f1, .string h.f2, .slice A7 h.f3.length c7] 58)).alloc (.cells #[.int .i64 b.f0, .int .i64 b.f1, .string b.f2, .slice A8 b.f3.length c8] 58)).alloc (.cells #[.int .i64 z58.f0, .int .i64 z58.f1, .string z58.f2, .slice A9 z58.f3.length c9] 58)).cell? ⟨w6.heap.size + 1, 0, none⟩ = some (.int .i64 b.f0) := (blk_cell B_8 0).trans rfl
  have d81 : (((w6.alloc (.cells #[.int .i64 h.f0, .int .i64 h.f1, .string h.f2, .slice A7 h.f3.length c7] 58)).alloc (.cells #[.int .i64 b.f0, .int .i64 b.f1, .string b.f2, .slice A8 b.f3.length c8] 58)).alloc (.cells #[.int .i64 z58.f0, .int .i64 z58.f1, .string z58.f2, .slice A9 z58.f3.length c9] 58)).cell? ⟨w6.heap.size + 1, 1, none⟩ = some (.int .i64 b.f1) := (blk_cell B_8 1).trans rfl
  have d82 : (((w6.alloc (.cells #[.int .i64 h.f0, .int .i64 h.f1, .string h.f2, .slice A7 h.f3.length c7] 58)).alloc (.cells #[.int .i64 b.f0, .int .i64 b.f1, .string b.f2, .slice A8 b.f3.length c8] 58)).alloc (.cells #[.int .i64 z58.f0, .int .i64 z58.f1, .string z58.f2, .slice A9 z58.f3.length c9] 58)).cell? ⟨w6.heap.size + 1, 2, none⟩ = some (.string b.f2) := (blk_cell B_8 2).trans rfl
  have d83 : (((w6.alloc (.cells #[.int .i64 h.f0, .int .i64 h.f1, .string h.f2, .slice A7 h.f3.length c7] 58)).alloc (.cells #[.int .i64 b.f0, .int .i64 b.f1, .string b.f2, .slice A8 b.f3.length c8] 58)).alloc (.cells #[.int .i64 z58.f0, .int .i64 z58.f1, .string z58.f2, .slice A9 z58.f3.length c9] 58)).cell? ⟨w6.heap.size + 1, 3, none⟩ = some (.slice A8 b.f3.length c8) := (blk_cell B_8 3).trans rfl
  replace HB := Aside0.mk HB
  replace B_3 := Aside0.mk B_3
  replace B_4 := Aside0.mk B_4
  replace B_6 := Aside0.mk B_6
  replace B_7 := Aside0.mk B_7
  replace B_8 := Aside0.mk B_8
  replace B_9 := Aside0.mk B_9
  replace F_h := Aside0.mk F_h
  replace F_b := Aside0.mk F_b
  replace F_x := Aside0.mk F_x
  replace F_y := Aside0.mk F_y
  go_wp2_with fail
  replace HB := HB.out
  replace B_3 := B_3.out
  replace B_4 := B_4.out
  replace B_6 := B_6.out
  replace B_7 := B_7.out
  replace B_8 := B_8.out
  replace B_9 := B_9.out
  replace F_h := F_h.out
  replace F_b := F_b.out
  replace F_x := F_x.out
  replace F_y := F_y.out
  clear d30 d31 d32 d33 d40 d41 d42 d43 d70 d71 d72 d73 d80 d81 d82 d83
  refine (same_calls h (by have := hszh.out; omega) _ _ _ _ _ (Kd.F_now F_x) hc7.out (Kd.F_now F_h) hc1.out).mono ?_
  rintro e w7 ⟨rfl, hb⟩
  replace HB := below_step HB hb
  replace B_3 := blk_below B_3 hb
  replace B_4 := blk_below B_4 hb
  replace B_6 := blk_below B_6 hb
  replace B_7 := blk_below B_7 hb
  replace B_8 := blk_below B_8 hb
  replace B_9 := blk_below B_9 hb
  replace F_h := Kd.F_below F_h hb
  replace F_b := Kd.F_below F_b hb
  replace F_x := Kd.F_below F_x hb
  replace F_y := Kd.F_below F_y hb
  clear hb
  have d30 : w7.cell? ⟨w4.heap.size, 0, none⟩ = some (.int .i64 h.f0) := (blk_cell B_3 0).trans rfl
  have d31 : w7.cell? ⟨w4.heap.size, 1, none⟩ = some (.int .i64 h.f1) := (blk_cell B_3 1).trans rfl
  have d32 : w7.cell? ⟨w4.heap.size, 2, none⟩ = some (.string h.f2) := (blk_cell B_3 2).trans rfl
  have d33 : w7.cell? ⟨w4.heap.size, 3, none⟩ = some (.slice A1 h.f3.length c1) := (blk_cell B_3 3).trans rfl
  have d40 : w7.cell? ⟨w4.heap.size + 1, 0, none⟩ = some (.int .i64 b.f0) := (blk_cell B_4 0).trans rfl
  have d41 : w7.cell? ⟨w4.heap.size + 1, 1, none⟩ = some (.int .i64 b.f1) := (blk_cell B_4 1).trans rfl
  have d42 : w7.cell? ⟨w4.heap.size + 1, 2, none⟩ = some (.string b.f2) := (blk_cell B_4 2).trans rfl
  have d43 : w7.cell? ⟨w4.heap.size + 1, 3, none⟩ = some (.slice A2 b.f3.length c2) := (blk_cell B_4 3).trans rfl
  have d70 : w7.cell? ⟨w6.heap.size, 0, none⟩ = some (.int .i64 h.f0) := (blk_cell B_7 0).trans rfl
  have d71 : w7.cell? ⟨w6.heap.size, 1, none⟩ = some (.int .i64 h.f1) := (blk_cell B_7 1).trans rfl
  have d72 : w7.cell? ⟨w6.heap.size, 2, none⟩ = some (.string h.f2) := (blk_cell B_7 2).trans rfl
  have d73 : w7.cell? ⟨w6.heap.size, 3, none⟩ = some (.slice A7 h.f3.length c7) := (blk_cell B_7 3).trans rfl
  have d80 : w7.cell? ⟨w6.heap.size + 1, 0, none⟩ = some (.int .i64 b.f0) := (blk_cell B_8 0).trans rfl
  have d81 : w7.cell? ⟨w6.heap.size + 1, 1, none⟩ = some (.int .i64 b.f1) := (blk_cell B_8 1).trans rfl
  have d82 : w7.cell? ⟨w6.heap.size + 1, 2, none⟩ = some (.string b.f2) := (blk_cell B_8 2).trans rfl
  have d83 : w7.cell? ⟨w6.heap.size + 1, 3, none⟩ = some (.slice A8 b.f3.length c8) := (blk_cell B_8 3).trans rfl
  replace HB := Aside0.mk HB
  replace B_3 := Aside0.mk B_3
  replace B_4 := Aside0.mk B_4
  replace B_6 := Aside0.mk B_6
  replace B_7 := Aside0.mk B_7
  replace B_8 := Aside0.mk B_8
  replace B_9 := Aside0.mk B_9
  replace F_h := Aside0.mk F_h
  replace F_b := Aside0.mk F_b
  replace F_x := Aside0.mk F_x
  replace F_y := Aside0.mk F_y
  go_wp2_with fail
  replace HB := HB.out
  replace B_3 := B_3.out
  replace B_4 := B_4.out
  replace B_6 := B_6.out
  replace B_7 := B_7.out
  replace B_8 := B_8.out
  replace B_9 := B_9.out
  replace F_h := F_h.out
  replace F_b := F_b.out
  replace F_x := F_x.out
  replace F_y := F_y.out
  clear d30 d31 d32 d33 d40 d41 d42 d43 d70 d71 d72 d73 d80 d81 d82 d83
  refine (same_calls b (by have := hszb.out; omega) _ _ _ _ _ (Kd.F_now F_y) hc8.out (Kd.F_now F_b) hc2.out).mono ?_
  rintro e w8 ⟨rfl, hb⟩
  replace HB := below_step HB hb
  replace B_3 := blk_below B_3 hb
  replace B_4 := blk_below B_4 hb
  replace B_6 := blk_below B_6 hb
  replace B_7 := blk_below B_7 hb
  replace B_8 := blk_below B_8 hb
  replace B_9 := blk_below B_9 hb
  replace F_h := Kd.F_below F_h hb
  replace F_b := Kd.F_below F_b hb
  replace F_x := Kd.F_below F_x hb
  replace F_y := Kd.F_below F_y hb
  clear hb
  have d30 : w8.cell? ⟨w4.heap.size, 0, none⟩ = some (.int .i64 h.f0) := (blk_cell B_3 0).trans rfl
  have d31 : w8.cell? ⟨w4.heap.size, 1, none⟩ = some (.int .i64 h.f1) := (blk_cell B_3 1).trans rfl
  have d32 : w8.cell? ⟨w4.heap.size, 2, none⟩ = some (.string h.f2) := (blk_cell B_3 2).trans rfl
  have d33 : w8.cell? ⟨w4.heap.size, 3, none⟩ = some (.slice A1 h.f3.length c1) := (blk_cell B_3 3).trans rfl
  have d40 : w8.cell? ⟨w4.heap.size + 1, 0, none⟩ = some (.int .i64 b.f0) := (blk_cell B_4 0).trans rfl
  have d41 : w8.cell? ⟨w4.heap.size + 1, 1, none⟩ = some (.int .i64 b.f1) := (blk_cell B_4 1).trans rfl
  have d42 : w8.cell? ⟨w4.heap.size + 1, 2, none⟩ = some (.string b.f2) := (blk_cell B_4 2).trans rfl
  have d43 : w8.cell? ⟨w4.heap.size + 1, 3, none⟩ = some (.slice A2 b.f3.length c2) := (blk_cell B_4 3).trans rfl
  have d70 : w8.cell? ⟨w6.heap.size, 0, none⟩ = some (.int .i64 h.f0) := (blk_cell B_7 0).trans rfl
  have d71 : w8.cell? ⟨w6.heap.size, 1, none⟩ = some (.int .i64 h.f1) := (blk_cell B_7 1).trans rfl
  have d72 : w8.cell? ⟨w6.heap.size, 2, none⟩ = some (.string h.f2) := (blk_cell B_7 2).trans rfl
  have d73 : w8.cell? ⟨w6.heap.size, 3, none⟩ = some (.slice A7 h.f3.length c7) := (blk_cell B_7 3).trans rfl
  have d80 : w8.cell? ⟨w6.heap.size + 1, 0, none⟩ = some (.int .i64 b.f0) := (blk_cell B_8 0).trans rfl
  have d81 : w8.cell? ⟨w6.heap.size + 1, 1, none⟩ = some (.int .i64 b.f1) := (blk_cell B_8 1).trans rfl
  have d82 : w8.cell? ⟨w6.heap.size + 1, 2, none⟩ = some (.string b.f2) := (blk_cell B_8 2).trans rfl
  have d83 : w8.cell? ⟨w6.heap.size + 1, 3, none⟩ = some (.slice A8 b.f3.length c8) := (blk_cell B_8 3).trans rfl
  replace HB := Aside0.mk HB
  replace B_3 := Aside0.mk B_3
  replace B_4 := Aside0.mk B_4
  replace B_6 := Aside0.mk B_6
  replace B_7 := Aside0.mk B_7
  replace B_8 := Aside0.mk B_8
  replace B_9 := Aside0.mk B_9
  replace F_h := Aside0.mk F_h
  replace F_b := Aside0.mk F_b
  replace F_x := Aside0.mk F_x
  replace F_y := Aside0.mk F_y
  go_wp2_with fail
  replace HB := HB.out
  replace B_3 := B_3.out
  replace B_4 := B_4.out
  replace B_6 := B_6.out
  replace B_7 := B_7.out
  replace B_8 := B_8.out
  replace B_9 := B_9.out
  replace F_h := F_h.out
  replace F_b := F_b.out
  replace F_x := F_x.out
  replace F_y := F_y.out
  clear d30 d31 d32 d33 d40 d41 d42 d43 d70 d71 d72 d73 d80 d81 d82 d83
  refine (kind_calls b _ _ _).mono ?_
  rintro e w9 ⟨rfl, hb⟩
  replace HB := below_step HB hb
  replace B_3 := blk_below B_3 hb
  replace B_4 := blk_below B_4 hb
  replace B_6 := blk_below B_6 hb
  replace B_7 := blk_below B_7 hb
  replace B_8 := blk_below B_8 hb
  replace B_9 := blk_below B_9 hb
  replace F_h := Kd.F_below F_h hb
  replace F_b := Kd.F_below F_b hb
  replace F_x := Kd.F_below F_x hb
  replace F_y := Kd.F_below F_y hb
  rw [hkv.out]
  clear hb
  replace HB := Aside0.mk HB
  replace B_3 := Aside0.mk B_3
  replace B_4 := Aside0.mk B_4
  replace B_6 := Aside0.mk B_6
  replace B_7 := Aside0.mk B_7
  replace B_8 := Aside0.mk B_8
  replace B_9 := Aside0.mk B_9
  replace F_h := Aside0.mk F_h
  replace F_b := Aside0.mk F_b
  replace F_x := Aside0.mk F_x
  replace F_y := Aside0.mk F_y
  go_wp2_with fail
  replace HB := HB.out
  replace B_3 := B_3.out
  replace B_4 := B_4.out
  replace B_6 := B_6.out
  replace B_7 := B_7.out
  replace B_8 := B_8.out
  replace B_9 := B_9.out
  replace F_h := F_h.out
  replace F_b := F_b.out
  replace F_x := F_x.out
  replace F_y := F_y.out
  go_ret
  exact ⟨rfl, HB⟩
theorem goalClauses_walk (l : List S146) (A : Option Addr) (c : Nat) (w : World) (hC : Kd.C k146 w A l.length l) (hc : l.length ≤ c) :
    Calls Try.prog 7 #[.slice A l.length c] w fun e w' => e = .returned (.bool true) ∧ Below w.heap.size w w' := by
  by_cases hg : 60 < l.length
  · exact cl_great l A c w hC hc hg
  obtain ⟨t, ht, hs, hgood⟩ := good_ok l (by omega)
  obtain ⟨h1, h2⟩ := clause_law ht hs
  have hU := clause_u t
  obtain ⟨r, hr⟩ : ∃ r, clauseR t = r := ⟨_, rfl⟩
  rw [hr] at h1 h2 hU
  obtain ⟨h, b, n, u⟩ := r
  dsimp only at h1 h2 hU
  by_cases hn : n = 0
  · subst hn
    obtain ⟨q1, q2, q3, q4, q5⟩ := h2 rfl
    have := hU rfl
    subst this
    rcases q2 with q2 | q2
    · exact cl_ok3 l A c w hC hc hg t hgood hs h b hr q1 q2 q3 q4 q5
    · exact cl_ok4 l A c w hC hc hg t hgood hs h b hr q1 q2 q3 q4 q5
  · obtain ⟨q1, q2, q3⟩ := h1 hn
    by_cases h13 : n = 13
    · exact cl_err13 l A c w hC hc hg t hgood hs h b u n hr h13 q1 q2 (q3.1 h13)
    · exact cl_erro l A c w hC hc hg t hgood hs h b u n hr hn h13 q1 q2 (by by_cases hu : u.f0 = 0; exact hu; exact absurd (q3.2 hu) h13)
end Go.Proofs.Ythdnaliahdohhaa.H
