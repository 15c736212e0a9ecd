/- GoalBodies: the walk where both are bodies. -/
import Derived.Test.YthdnaliahdohhaaHHgoalBodies1
namespace Go.Proofs.Ythdnaliahdohhaa.H
open Go.RowKit Go.Proofs.YthdnaliahdohhaaW.PrintWords Go.Proofs.YthdnaliahdohhaaW.PrintLast Go.Proofs.YthdnaliahdohhaaW.PrintMore Go.Proofs.Ythdnaliahdohhaa.Map Go.Proofs.Ythdnaliahdohhaa.Reg
attribute [local go_sem] max2_int min2_int max_two min_two max_three min_three max_four min_four
set_option linter.unusedVariables false
set_option linter.unusedSimpArgs false
set_option maxHeartbeats 8000000 in
set_option maxRecDepth 100000 in
theorem gb_5 (l m : List S146) (A B : Option Addr) (c d : Nat) (w : World) (hC : Kd.C k146 w A l.length l) (hc : l.length ≤ c) (hD : Kd.C k146 w B m.length m) (hd : m.length ≤ d) (hg : ¬ 60 < l.length) (hg2 : ¬ 60 < m.length) (t u : S58) (hgood : ∀ (A : Option Addr) (c : Nat) (w : World), Kd.C k146 w A l.length l → l.length ≤ c → Calls Try.prog 33 #[.slice A l.length c] w (RetT t w)) (hgoodu : ∀ (A : Option Addr) (c : Nat) (w : World), Kd.C k146 w A m.length m → m.length ≤ c → Calls Try.prog 33 #[.slice A m.length c] w (RetT u w)) (hs : szT t ≤ 500) (hsu : szT u ≤ 500) (x y : S58) (hr1 : bodyR t = (0, x)) (hr2 : bodyR u = (0, y)) (hr3 : bodyR (tAnd2 t u) = (0, tAnd2 x y)) (hrx : bodyR x = (0, x)) (hsx : szT x ≤ 1000) (hsy : szT y ≤ 1000) (X Y : List S58) (hX : flatN 1000000 x = X) (hY : flatN 1000000 y = Y) (hXY : flatN 1000000 (tAnd2 x y) = X ++ Y) (hkinds : ∀ z ∈ X ++ Y, ¬ kindV z = 2 ∧ 0 ≤ kindV z) (hlen : (X ++ Y).length ≤ 1000000) (hszs : ∀ z ∈ X ++ Y, szT z ≤ 1000000) :
    Calls Try.prog 9 #[.slice A l.length c, .slice B m.length d] w fun e w' => e = .returned (.bool true) ∧ Below w.heap.size w w' := by
  replace hgood := Aside0.mk hgood
  replace hgoodu := Aside0.mk hgoodu
  replace hs := Aside0.mk hs
  replace hsu := Aside0.mk hsu
  have HB := Below.refl w.heap.size w
  replace hC := Aside0.mk hC
  replace hc := Aside0.mk hc
  replace hD := Aside0.mk hD
  replace hd := Aside0.mk hd
  have HG : Aside0 (decide (60 < l.length) = false) := ⟨by simpa using hg⟩
  replace hg := Aside0.mk hg
  have HG2 : Aside0 (decide (60 < m.length) = false) := ⟨by simpa using hg2⟩
  replace hg2 := Aside0.mk hg2
  go_enter Try.func9, Try.ntmps9
  replace HB := Aside0.mk HB
  go_wp2_with fail
  replace HB := HB.out
  refine (alive_calls _).mono ?_
  rintro e w1 ⟨rfl, hb⟩
  replace HB := below_step HB hb
  clear hb
  replace HB := Aside0.mk HB
  go_wp2_with fail
  replace HB := HB.out
  refine (great_calls l A c _).mono ?_
  rintro e w2 ⟨rfl, hb⟩
  replace HB := below_step HB hb
  rw [HG.out]
  clear hb
  replace HB := Aside0.mk HB
  go_wp2_with fail
  replace HB := HB.out
  refine (great_calls m B d _).mono ?_
  rintro e w3 ⟨rfl, hb⟩
  replace HB := below_step HB hb
  rw [HG2.out]
  clear hb
  replace hkinds := Aside0.mk hkinds
  replace hlen := Aside0.mk hlen
  replace hszs := Aside0.mk hszs
  replace hX := Aside0.mk hX
  replace hY := Aside0.mk hY
  replace hXY := Aside0.mk hXY
  replace hsx := Aside0.mk hsx
  replace hsy := Aside0.mk hsy
  replace HB := Aside0.mk HB
  go_wp2_with fail
  replace HB := HB.out
  have hC2 := Kd.C_below hC.out HB
  refine (hgood.out A c _ hC2 hc.out).mono ?_
  rintro e w4 ⟨At, ct, rfl, hct, F_t, hb⟩
  replace HB := below_step HB hb
  clear hC2
  replace hct := Aside0.mk hct
  clear hb
  replace HB := Aside0.mk HB
  replace F_t := Aside0.mk F_t
  go_wp2_with fail
  replace HB := HB.out
  replace F_t := F_t.out
  refine (Body_c hr1 (by have := hs.out; omega) At ct w4 (fun q => q < w4.heap.size) (fun _ h => h) (Kd.F_mono (Kd.F_bound F_t) (fun q hq => hq.2)) hct.out).mono ?_
  rintro e w5 ⟨A1, c1, rfl, hc1, F_x, hb⟩
  replace HB := below_step HB hb
  replace F_t := Kd.F_below F_t hb
  replace hc1 := Aside0.mk hc1
  clear hb
  clear F_t
  have hal : Below w5.heap.size w5 (w5.alloc (.cells #[.int .i64 x.f0, .int .i64 x.f1, .string x.f2, .slice A1 x.f3.length c1] 58)) := below_alloc (Below.refl _ _) (.cells #[.int .i64 x.f0, .int .i64 x.f1, .string x.f2, .slice A1 x.f3.length c1] 58)
  replace HB := below_step HB hal
  replace F_x := Kd.F_below F_x hal
  have B_5 := heap_alloc_new w5 (.cells #[.int .i64 x.f0, .int .i64 x.f1, .string x.f2, .slice A1 x.f3.length c1] 58)
  have hz : w5.heap.size = w5.heap.size + 0 := by rfl
  skip
  clear hz
  clear hal
  replace HB := Aside0.mk HB
  replace B_5 := Aside0.mk B_5
  replace F_x := Aside0.mk F_x
  go_wp2_with fail
  replace HB := HB.out
  replace B_5 := B_5.out
  replace F_x := F_x.out
  have hC2 := Kd.C_below hD.out HB
  refine (hgoodu.out B d _ hC2 hd.out).mono ?_
  rintro e w6 ⟨Au, cu, rfl, hcu, F_u, hb⟩
  replace HB := below_step HB hb
  replace B_5 := blk_below B_5 hb
  replace F_x := Kd.F_below F_x hb
  clear hC2
  replace hcu := Aside0.mk hcu
  clear hb
  replace HB := Aside0.mk HB
  replace B_5 := Aside0.mk B_5
  replace F_x := Aside0.mk F_x
  replace F_u := Aside0.mk F_u
  go_wp2_with fail
  replace HB := HB.out
  replace B_5 := B_5.out
  replace F_x := F_x.out
  replace F_u := F_u.out
  refine (Body_c hr2 (by have := hsu.out; omega) Au cu w6 (fun q => q < w6.heap.size) (fun _ h => h) (Kd.F_mono (Kd.F_bound F_u) (fun q hq => hq.2)) hcu.out).mono ?_
  rintro e w7 ⟨A2, c2, rfl, hc2, F_y, hb⟩
  replace HB := below_step HB hb
  replace B_5 := blk_below B_5 hb
  replace F_x := Kd.F_below F_x hb
  replace F_u := Kd.F_below F_u hb
  replace hc2 := Aside0.mk hc2
  clear hb
  clear F_u
  have hal : Below w7.heap.size w7 (w7.alloc (.cells #[.int .i64 y.f0, .int .i64 y.f1, .string y.f2, .slice A2 y.f3.length c2] 58)) := below_alloc (Below.refl _ _) (.cells #[.int .i64 y.f0, .int .i64 y.f1, .string y.f2, .slice A2 y.f3.length c2] 58)
  replace HB := below_step HB hal
  replace B_5 := blk_below B_5 hal
  replace F_x := Kd.F_below F_x hal
  replace F_y := Kd.F_below F_y hal
  have B_7 := heap_alloc_new w7 (.cells #[.int .i64 y.f0, .int .i64 y.f1, .string y.f2, .slice A2 y.f3.length c2] 58)
  have hz : w7.heap.size = w7.heap.size + 0 := by rfl
  skip
  clear hz
  clear hal
  replace HB := Aside0.mk HB
  replace B_5 := Aside0.mk B_5
  replace B_7 := Aside0.mk B_7
  replace F_x := Aside0.mk F_x
  replace F_y := Aside0.mk F_y
  go_wp2_with fail
  replace HB := HB.out
  replace B_5 := B_5.out
  replace B_7 := B_7.out
  replace F_x := F_x.out
  replace F_y := F_y.out
  have hC2 := Kd.C_below hC.out HB
  refine (hgood.out A c _ hC2 hc.out).mono ?_
  rintro e w8 ⟨At2, ct2, rfl, hct2, F_t, hb⟩
  replace HB := below_step HB hb
  replace B_5 := blk_below B_5 hb
  replace B_7 := blk_below B_7 hb
  replace F_x := Kd.F_below F_x hb
  replace F_y := Kd.F_below F_y hb
  clear hC2
  replace hct2 := Aside0.mk hct2
  clear hb
  replace HB := Aside0.mk HB
  replace B_5 := Aside0.mk B_5
  replace B_7 := Aside0.mk B_7
  replace F_x := Aside0.mk F_x
  replace F_y := Aside0.mk F_y
  replace F_t := Aside0.mk F_t
  go_wp2_with fail
  replace HB := HB.out
  replace B_5 := B_5.out
  replace B_7 := B_7.out
  replace F_x := F_x.out
  replace F_y := F_y.out
  replace F_t := F_t.out
  have hC2 := Kd.C_below hD.out HB
  refine (hgoodu.out B d _ hC2 hd.out).mono ?_
  rintro e w9 ⟨Au2, cu2, rfl, hcu2, F_u, hb⟩
  replace HB := below_step HB hb
  replace B_5 := blk_below B_5 hb
  replace B_7 := blk_below B_7 hb
  replace F_x := Kd.F_below F_x hb
  replace F_y := Kd.F_below F_y hb
  replace F_t := Kd.F_below F_t hb
  clear hC2
  replace hcu2 := Aside0.mk hcu2
  clear hb
  replace HB := Aside0.mk HB
  replace B_5 := Aside0.mk B_5
  replace B_7 := Aside0.mk B_7
  replace F_x := Aside0.mk F_x
  replace F_y := Aside0.mk F_y
  replace F_t := Aside0.mk F_t
  replace F_u := Aside0.mk F_u
  go_wp2_with fail
  replace HB := HB.out
  replace B_5 := B_5.out
  replace B_7 := B_7.out
  replace F_x := F_x.out
  replace F_y := F_y.out
  replace F_t := F_t.out
  replace F_u := F_u.out
  have hal : Below w9.heap.size w9 (w9.alloc (.cells #[.int .i64 t.f0, .int .i64 t.f1, .string t.f2, .slice At2 t.f3.length ct2, .int .i64 u.f0, .int .i64 u.f1, .string u.f2, .slice Au2 u.f3.length cu2] 58)) := below_alloc (Below.refl _ _) (.cells #[.int .i64 t.f0, .int .i64 t.f1, .string t.f2, .slice At2 t.f3.length ct2, .int .i64 u.f0, .int .i64 u.f1, .string u.f2, .slice Au2 u.f3.length cu2] 58)
  replace HB := below_step HB hal
  replace B_5 := blk_below B_5 hal
  replace B_7 := blk_below B_7 hal
  replace F_x := Kd.F_below F_x hal
  replace F_y := Kd.F_below F_y hal
  replace F_t := Kd.F_below F_t hal
  replace F_u := Kd.F_below F_u hal
  have B_L := heap_alloc_new w9 (.cells #[.int .i64 t.f0, .int .i64 t.f1, .string t.f2, .slice At2 t.f3.length ct2, .int .i64 u.f0, .int .i64 u.f1, .string u.f2, .slice Au2 u.f3.length cu2] 58)
  have hz : w9.heap.size = w9.heap.size + 0 := by rfl
  skip
  clear hz
  clear hal
  refine (f_calls _ _ _ _ _).mono ?_
  rintro e w10 ⟨rfl, hb⟩
  replace HB := below_step HB hb
  replace B_5 := blk_below B_5 hb
  replace B_7 := blk_below B_7 hb
  replace B_L := blk_below B_L hb
  replace F_x := Kd.F_below F_x hb
  replace F_y := Kd.F_below F_y hb
  replace F_t := Kd.F_below F_t hb
  replace F_u := Kd.F_below F_u hb
  have F_1 := lit2 (x := t) (y := u) B_L hct2.out (Kd.F_mono (Kd.F_bound F_t) (ok' := fun q => q < w10.heap.size) (fun q hq => hq.2)) hcu2.out (Kd.F_mono (Kd.F_bound F_u) (ok' := fun q => q < w10.heap.size) (fun q hq => hq.2))
  clear B_L
  clear hb
  clear F_t
  clear F_u
  replace HB := Aside0.mk HB
  replace B_5 := Aside0.mk B_5
  replace B_7 := Aside0.mk B_7
  replace F_x := Aside0.mk F_x
  replace F_y := Aside0.mk F_y
  replace F_1 := Aside0.mk F_1
  go_wp2_with fail
  replace HB := HB.out
  replace B_5 := B_5.out
  replace B_7 := B_7.out
  replace F_x := F_x.out
  replace F_y := F_y.out
  replace F_1 := F_1.out
  refine (Body_c (x := tAnd2 t u) hr3 (by rw [and_sz]; have := hs.out; have := hsu.out; omega) (some ⟨w9.heap.size, 0, none⟩) 2 w10 (fun q => q < w10.heap.size) (fun _ h => h) (Kd.F_mono (Kd.F_bound F_1) (fun q hq => hq.2)) (Nat.le_refl 2)).mono ?_
  rintro e w11 ⟨A3, c3, rfl, hc3, F_z, hb⟩
  replace HB := below_step HB hb
  replace B_5 := blk_below B_5 hb
  replace B_7 := blk_below B_7 hb
  replace F_x := Kd.F_below F_x hb
  replace F_y := Kd.F_below F_y hb
  replace F_1 := Kd.F_below F_1 hb
  replace hc3 := Aside0.mk hc3
  clear hb
  clear F_1
  have hal : Below w11.heap.size w11 (w11.alloc (.cells #[.int .i64 (tAnd2 x y).f0, .int .i64 (tAnd2 x y).f1, .string (tAnd2 x y).f2, .slice A3 (tAnd2 x y).f3.length c3] 58)) := below_alloc (Below.refl _ _) (.cells #[.int .i64 (tAnd2 x y).f0, .int .i64 (tAnd2 x y).f1, .string (tAnd2 x y).f2, .slice A3 (tAnd2 x y).f3.length c3] 58)
  replace HB := below_step HB hal
  replace B_5 := blk_below B_5 hal
  replace B_7 := blk_below B_7 hal
  replace F_x := Kd.F_below F_x hal
  replace F_y := Kd.F_below F_y hal
  replace F_z := Kd.F_below F_z hal
  have B_9 := heap_alloc_new w11 (.cells #[.int .i64 (tAnd2 x y).f0, .int .i64 (tAnd2 x y).f1, .string (tAnd2 x y).f2, .slice A3 (tAnd2 x y).f3.length c3] 58)
  have hz : w11.heap.size = w11.heap.size + 0 := by rfl
  skip
  clear hz
  clear hal
  have d0 : (w11.alloc (.cells #[.int .i64 (tAnd2 x y).f0, .int .i64 (tAnd2 x y).f1, .string (tAnd2 x y).f2, .slice A3 (tAnd2 x y).f3.length c3] 58)).cell? ⟨w5.heap.size, 0, none⟩ = some (.int .i64 x.f0) := (blk_cell B_5 0).trans rfl
  have d1 : (w11.alloc (.cells #[.int .i64 (tAnd2 x y).f0, .int .i64 (tAnd2 x y).f1, .string (tAnd2 x y).f2, .slice A3 (tAnd2 x y).f3.length c3] 58)).cell? ⟨w5.heap.size, 1, none⟩ = some (.int .i64 x.f1) := (blk_cell B_5 1).trans rfl
  have d2 : (w11.alloc (.cells #[.int .i64 (tAnd2 x y).f0, .int .i64 (tAnd2 x y).f1, .string (tAnd2 x y).f2, .slice A3 (tAnd2 x y).f3.length c3] 58)).cell? ⟨w5.heap.size, 2, none⟩ = some (.string x.f2) := (blk_cell B_5 2).trans rfl
  have d3 : (w11.alloc (.cells #[.int .i64 (tAnd2 x y).f0, .int .i64 (tAnd2 x y).f1, .string (tAnd2 x y).f2, .slice A3 (tAnd2 x y).f3.length c3] 58)).cell? ⟨w5.heap.size, 3, none⟩ = some (.slice A1 x.f3.length c1) := (blk_cell B_5 3).trans rfl
  replace HB := Aside0.mk HB
  replace B_5 := Aside0.mk B_5
  replace B_7 := Aside0.mk B_7
  replace B_9 := Aside0.mk B_9
  replace F_x := Aside0.mk F_x
  replace F_y := Aside0.mk F_y
  replace F_z := Aside0.mk F_z
  go_wp2_with fail
  replace HB := HB.out
  replace B_5 := B_5.out
  replace B_7 := B_7.out
  replace B_9 := B_9.out
  replace F_x := F_x.out
  replace F_y := F_y.out
  replace F_z := F_z.out
  clear d0 d1 d2 d3
  refine (Body_c hrx (by have := hsx.out; omega) A1 c1 _ (fun q => q < (w11.alloc (.cells #[.int .i64 (tAnd2 x y).f0, .int .i64 (tAnd2 x y).f1, .string (tAnd2 x y).f2, .slice A3 (tAnd2 x y).f3.length c3] 58)).heap.size) (fun _ h => h) (Kd.F_mono (Kd.F_bound F_x) (fun q hq => hq.2)) hc1.out).mono ?_
  rintro e w12 ⟨A4, c4, rfl, hc4, F_4, hb⟩
  replace HB := below_step HB hb
  replace B_5 := blk_below B_5 hb
  replace B_7 := blk_below B_7 hb
  replace B_9 := blk_below B_9 hb
  replace F_x := Kd.F_below F_x hb
  replace F_y := Kd.F_below F_y hb
  replace F_z := Kd.F_below F_z hb
  replace hc4 := Aside0.mk hc4
  clear hb
  have hal : Below w12.heap.size w12 (w12.alloc (.cells #[.int .i64 x.f0, .int .i64 x.f1, .string x.f2, .slice A4 x.f3.length c4] 58)) := below_alloc (Below.refl _ _) (.cells #[.int .i64 x.f0, .int .i64 x.f1, .string x.f2, .slice A4 x.f3.length c4] 58)
  replace HB := below_step HB hal
  replace B_5 := blk_below B_5 hal
  replace B_7 := blk_below B_7 hal
  replace B_9 := blk_below B_9 hal
  replace F_x := Kd.F_below F_x hal
  replace F_y := Kd.F_below F_y hal
  replace F_z := Kd.F_below F_z hal
  replace F_4 := Kd.F_below F_4 hal
  have B_11 := heap_alloc_new w12 (.cells #[.int .i64 x.f0, .int .i64 x.f1, .string x.f2, .slice A4 x.f3.length c4] 58)
  have hz : w12.heap.size = w12.heap.size + 0 := by rfl
  skip
  clear hz
  clear hal
  replace HB := Aside0.mk HB
  replace B_5 := Aside0.mk B_5
  replace B_7 := Aside0.mk B_7
  replace B_9 := Aside0.mk B_9
  replace B_11 := Aside0.mk B_11
  replace F_x := Aside0.mk F_x
  replace F_y := Aside0.mk F_y
  replace F_z := Aside0.mk F_z
  replace F_4 := Aside0.mk F_4
  go_wp2_with fail
  replace HB := HB.out
  replace B_5 := B_5.out
  replace B_7 := B_7.out
  replace B_9 := B_9.out
  replace B_11 := B_11.out
  replace F_x := F_x.out
  replace F_y := F_y.out
  replace F_z := F_z.out
  replace F_4 := F_4.out
  generalize (w12.alloc (.cells #[.int .i64 x.f0, .int .i64 x.f1, .string x.f2, .slice A4 x.f3.length c4] 58)) = y0 at *
  refine start_ (n := 21) (S := fun w' => w'.cell? ⟨w5.heap.size, 0, none⟩ = some (.int .i64 x.f0) ∧ w'.cell? ⟨w5.heap.size, 1, none⟩ = some (.int .i64 x.f1) ∧ w'.cell? ⟨w5.heap.size, 2, none⟩ = some (.string x.f2) ∧ w'.cell? ⟨w5.heap.size, 3, none⟩ = some (.slice A1 x.f3.length c1) ∧ w'.cell? ⟨w7.heap.size, 0, none⟩ = some (.int .i64 y.f0) ∧ w'.cell? ⟨w7.heap.size, 1, none⟩ = some (.int .i64 y.f1) ∧ w'.cell? ⟨w7.heap.size, 2, none⟩ = some (.string y.f2) ∧ w'.cell? ⟨w7.heap.size, 3, none⟩ = some (.slice A2 y.f3.length c2) ∧ w'.cell? ⟨w11.heap.size, 0, none⟩ = some (.int .i64 (tAnd2 x y).f0) ∧ w'.cell? ⟨w11.heap.size, 1, none⟩ = some (.int .i64 (tAnd2 x y).f1) ∧ w'.cell? ⟨w11.heap.size, 2, none⟩ = some (.string (tAnd2 x y).f2) ∧ w'.cell? ⟨w11.heap.size, 3, none⟩ = some (.slice A3 (tAnd2 x y).f3.length c3) ∧ w'.cell? ⟨w12.heap.size, 0, none⟩ = some (.int .i64 x.f0) ∧ w'.cell? ⟨w12.heap.size, 1, none⟩ = some (.int .i64 x.f1) ∧ w'.cell? ⟨w12.heap.size, 2, none⟩ = some (.string x.f2) ∧ w'.cell? ⟨w12.heap.size, 3, none⟩ = some (.slice A4 x.f3.length c4)) (ds := []) #[false, false, false, false, false, false, false, false, false, false, false, false, false, false, false, false, false, false, false, false, false] (by kernel_rfl) rfl rfl ⟨(blk_cell (blk_drew B_5) 0).trans rfl, (blk_cell (blk_drew B_5) 1).trans rfl, (blk_cell (blk_drew B_5) 2).trans rfl, (blk_cell (blk_drew B_5) 3).trans rfl, (blk_cell (blk_drew B_7) 0).trans rfl, (blk_cell (blk_drew B_7) 1).trans rfl, (blk_cell (blk_drew B_7) 2).trans rfl, (blk_cell (blk_drew B_7) 3).trans rfl, (blk_cell (blk_drew B_9) 0).trans rfl, (blk_cell (blk_drew B_9) 1).trans rfl, (blk_cell (blk_drew B_9) 2).trans rfl, (blk_cell (blk_drew B_9) 3).trans rfl, (blk_cell (blk_drew B_11) 0).trans rfl, (blk_cell (blk_drew B_11) 1).trans rfl, (blk_cell (blk_drew B_11) 2).trans rfl, (blk_cell (blk_drew B_11) 3).trans rfl⟩ (fun hHeld => ?_)
  replace B_5 := blk_drew B_5
  replace B_7 := blk_drew B_7
  replace B_9 := blk_drew B_9
  replace B_11 := blk_drew B_11
  replace HB := HB.drew
  replace F_x := Kd.F_drew F_x
  replace F_y := Kd.F_drew F_y
  replace F_z := Kd.F_drew F_z
  replace F_4 := Kd.F_drew F_4
  generalize y0.drew = r0 at *
  refine pure_ (i := 0) (N := some 59) (v := ?_) (a' := ?_) #[true, false, false, false, false, false, false, false, false, false, false, false, false, false, false, false, false, false, false, false, false] rfl rfl (by kernel_rfl) (fun _ _ _ h => h) (Or.inl ⟨by rfl, ?_⟩) ?_ ?_
  rotate_left
  · intro w'
    go_simp
    with_reducible rfl
  rotate_left
  · simp only [Act.put, List.setIfInBounds_toArray, List.set_cons_zero, List.set_cons_succ, i64_w, i32_w]
    rfl
  refine pure_ (i := 1) (N := some 60) (v := ?_) (a' := ?_) #[true, true, false, false, false, false, false, false, false, false, false, false, false, false, false, false, false, false, false, false, false] rfl rfl (by kernel_rfl) (fun _ _ _ h => h) (Or.inl ⟨by rfl, ?_⟩) ?_ ?_
  rotate_left
  · intro w'
    go_simp
    with_reducible rfl
  rotate_left
  · simp only [Act.put, List.setIfInBounds_toArray, List.set_cons_zero, List.set_cons_succ, i64_w, i32_w]
    rfl
  refine pure_ (i := 2) (N := some 61) (v := ?_) (a' := ?_) #[true, true, true, false, false, false, false, false, false, false, false, false, false, false, false, false, false, false, false, false, false] rfl rfl (by kernel_rfl) (fun _ _ _ h => h) (Or.inl ⟨by rfl, ?_⟩) ?_ ?_
  rotate_left
  · intro w'
    go_simp
    with_reducible rfl
  rotate_left
  · simp only [Act.put, List.setIfInBounds_toArray, List.set_cons_zero, List.set_cons_succ, i64_w, i32_w]
    rfl
  refine pure_ (i := 3) (N := some 62) (v := ?_) (a' := ?_) #[true, true, true, true, false, false, false, false, false, false, false, false, false, false, false, false, false, false, false, false, false] rfl rfl (by kernel_rfl) (fun _ _ _ h => h) (Or.inl ⟨by rfl, ?_⟩) ?_ ?_
  rotate_left
  · intro w'
    go_simp
    with_reducible rfl
  rotate_left
  · simp only [Act.put, List.setIfInBounds_toArray, List.set_cons_zero, List.set_cons_succ, i64_w, i32_w]
    rfl
  refine pure_ (i := 4) (N := some 63) (v := ?_) (a' := ?_) #[true, true, true, true, true, false, false, false, false, false, false, false, false, false, false, false, false, false, false, false, false] rfl rfl (by kernel_rfl) (fun _ _ _ h => h) (Or.inl ⟨by rfl, ?_⟩) ?_ ?_
  rotate_left
  · intro w'
    go_simp
    with_reducible rfl
  rotate_left
  · simp only [Act.put, List.setIfInBounds_toArray, List.set_cons_zero, List.set_cons_succ, i64_w, i32_w]
    rfl
  refine pure_ (i := 5) (N := some 64) (v := ?_) (a' := ?_) #[true, true, true, true, true, true, false, false, false, false, false, false, false, false, false, false, false, false, false, false, false] rfl rfl (by kernel_rfl) (fun _ _ _ h => h) (Or.inl ⟨by rfl, ?_⟩) ?_ ?_
  rotate_left
  · intro w'
    go_simp
    with_reducible rfl
  rotate_left
  · simp only [Act.put, List.setIfInBounds_toArray, List.set_cons_zero, List.set_cons_succ, i64_w, i32_w]
    rfl
  refine pure_ (i := 6) (N := some 65) (v := ?_) (a' := ?_) #[true, true, true, true, true, true, true, false, false, false, false, false, false, false, false, false, false, false, false, false, false] rfl rfl (by kernel_rfl) (fun _ _ _ h => h) (Or.inl ⟨by rfl, ?_⟩) ?_ ?_
  rotate_left
  · intro w'
    go_simp
    with_reducible rfl
  rotate_left
  · simp only [Act.put, List.setIfInBounds_toArray, List.set_cons_zero, List.set_cons_succ, i64_w, i32_w]
    rfl
  refine take_ (i := 7) (N := some 66) (v := ?_) (a' := ?_) #[true, true, true, true, true, true, true, true, false, false, false, false, false, false, false, false, false, false, false, false, false] rfl rfl (by kernel_rfl) (fun _ _ _ h => h) (Or.inl ⟨by rfl, ?_⟩) hHeld ?_ ?_
  rotate_left
  · rintro w' ⟨s0, s1, s2, s3, s4, s5, s6, s7, s8, s9, s10, s11, s12, s13, s14, s15⟩
    go_simp
    with_reducible rfl
  rotate_left
  · simp only [Act.put, List.setIfInBounds_toArray, List.set_cons_zero, List.set_cons_succ, i64_w, i32_w]
    rfl
  refine take_ (i := 8) (N := some 67) (v := ?_) (a' := ?_) #[true, true, true, true, true, true, true, true, true, false, false, false, false, false, false, false, false, false, false, false, false] rfl rfl (by kernel_rfl) (fun _ _ _ h => h) (Or.inl ⟨by rfl, ?_⟩) hHeld ?_ ?_
  rotate_left
  · rintro w' ⟨s0, s1, s2, s3, s4, s5, s6, s7, s8, s9, s10, s11, s12, s13, s14, s15⟩
    go_simp
    with_reducible rfl
  rotate_left
  · simp only [Act.put, List.setIfInBounds_toArray, List.set_cons_zero, List.set_cons_succ, i64_w, i32_w]
    rfl
  refine one_ (i := 9) (N := some 68) #[true, true, true, true, true, true, true, true, true, true, false, false, false, false, false, false, false, false, false, false, false] rfl rfl (by kernel_rfl) (by decide) (fun K hK => ?_)
  refine goes_ Try.func35 (by kernel_rfl) rfl #[.agg #[.int .i64 x.f0, .int .i64 x.f1, .string x.f2, .slice A4 x.f3.length c4], .agg #[.int .i64 x.f0, .int .i64 x.f1, .string x.f2, .slice A1 x.f3.length c1]] (by rfl) rfl rfl (by (try simp only [List.map_toArray, List.map_cons, List.map_nil]); first | done | rfl) ?_
  refine (same_calls x (by have := hsx.out; omega) _ _ _ _ _ (Kd.F_now F_4) hc4.out (Kd.F_now F_x) hc1.out).mono ?_
  rintro e r1 ⟨rfl, hb⟩
  refine ⟨_, rfl, ?_⟩
  replace HB := below_step HB hb
  replace B_5 := blk_below B_5 hb
  replace B_7 := blk_below B_7 hb
  replace B_9 := blk_below B_9 hb
  replace B_11 := blk_below B_11 hb
  replace F_x := Kd.F_below F_x hb
  replace F_y := Kd.F_below F_y hb
  replace F_z := Kd.F_below F_z hb
  replace F_4 := Kd.F_below F_4 hb
  clear hb
  refine hK.out _ _ ⟨(blk_cell B_5 0).trans rfl, (blk_cell B_5 1).trans rfl, (blk_cell B_5 2).trans rfl, (blk_cell B_5 3).trans rfl, (blk_cell B_7 0).trans rfl, (blk_cell B_7 1).trans rfl, (blk_cell B_7 2).trans rfl, (blk_cell B_7 3).trans rfl, (blk_cell B_9 0).trans rfl, (blk_cell B_9 1).trans rfl, (blk_cell B_9 2).trans rfl, (blk_cell B_9 3).trans rfl, (blk_cell B_11 0).trans rfl, (blk_cell B_11 1).trans rfl, (blk_cell B_11 2).trans rfl, (blk_cell B_11 3).trans rfl⟩ (fun hHeld => ?_)
  clear hK K
  refine norm_ (a' := ?_) ?_ ?_
  rotate_left
  · show Act.put _ (some 68) _ = _
    simp only [Act.put, List.setIfInBounds_toArray, List.set_cons_zero, List.set_cons_succ, i64_w, i32_w]
    rfl
  refine pure_ (i := 10) (N := some 69) (v := ?_) (a' := ?_) #[true, true, true, true, true, true, true, true, true, true, true, false, false, false, false, false, false, false, false, false, false] rfl rfl (by kernel_rfl) (fun _ _ _ h => h) (Or.inl ⟨by rfl, ?_⟩) ?_ ?_
  rotate_left
  · intro w'
    go_simp
    with_reducible rfl
  rotate_left
  · simp only [Act.put, List.setIfInBounds_toArray, List.set_cons_zero, List.set_cons_succ, i64_w, i32_w]
    rfl
  refine pure_ (i := 11) (N := some 70) (v := ?_) (a' := ?_) #[true, true, true, true, true, true, true, true, true, true, true, true, false, false, false, false, false, false, false, false, false] rfl rfl (by kernel_rfl) (fun _ _ _ h => h) (Or.inl ⟨by rfl, ?_⟩) ?_ ?_
  rotate_left
  · intro w'
    go_simp
    with_reducible rfl
  rotate_left
  · simp only [Act.put, List.setIfInBounds_toArray, List.set_cons_zero, List.set_cons_succ, i64_w, i32_w]
    rfl
  refine pure_ (i := 12) (N := some 71) (v := ?_) (a' := ?_) #[true, true, true, true, true, true, true, true, true, true, true, true, true, false, false, false, false, false, false, false, false] rfl rfl (by kernel_rfl) (fun _ _ _ h => h) (Or.inl ⟨by rfl, ?_⟩) ?_ ?_
  rotate_left
  · intro w'
    go_simp
    with_reducible rfl
  rotate_left
  · simp only [Act.put, List.setIfInBounds_toArray, List.set_cons_zero, List.set_cons_succ, i64_w, i32_w]
    rfl
  refine take_ (i := 13) (N := some 72) (v := ?_) (a' := ?_) #[true, true, true, true, true, true, true, true, true, true, true, true, true, true, false, false, false, false, false, false, false] rfl rfl (by kernel_rfl) (fun _ _ _ h => h) (Or.inl ⟨by rfl, ?_⟩) hHeld ?_ ?_
  rotate_left
  · rintro w' ⟨s0, s1, s2, s3, s4, s5, s6, s7, s8, s9, s10, s11, s12, s13, s14, s15⟩
    go_simp
    with_reducible rfl
  rotate_left
  · simp only [Act.put, List.setIfInBounds_toArray, List.set_cons_zero, List.set_cons_succ, i64_w, i32_w]
    rfl
  refine take_ (i := 14) (N := some 73) (v := ?_) (a' := ?_) #[true, true, true, true, true, true, true, true, true, true, true, true, true, true, true, false, false, false, false, false, false] rfl rfl (by kernel_rfl) (fun _ _ _ h => h) (Or.inl ⟨by rfl, ?_⟩) hHeld ?_ ?_
  rotate_left
  · rintro w' ⟨s0, s1, s2, s3, s4, s5, s6, s7, s8, s9, s10, s11, s12, s13, s14, s15⟩
    go_simp
    with_reducible rfl
  rotate_left
  · simp only [Act.put, List.setIfInBounds_toArray, List.set_cons_zero, List.set_cons_succ, i64_w, i32_w]
    rfl
  refine take_ (i := 15) (N := some 74) (v := ?_) (a' := ?_) #[true, true, true, true, true, true, true, true, true, true, true, true, true, true, true, true, false, false, false, false, false] rfl rfl (by kernel_rfl) (fun _ _ _ h => h) (Or.inl ⟨by rfl, ?_⟩) hHeld ?_ ?_
  rotate_left
  · rintro w' ⟨s0, s1, s2, s3, s4, s5, s6, s7, s8, s9, s10, s11, s12, s13, s14, s15⟩
    go_simp
    with_reducible rfl
  rotate_left
  · simp only [Act.put, List.setIfInBounds_toArray, List.set_cons_zero, List.set_cons_succ, i64_w, i32_w]
    rfl
  refine one_ (i := 16) (N := some 75) #[true, true, true, true, true, true, true, true, true, true, true, true, true, true, true, true, true, false, false, false, false] rfl rfl (by kernel_rfl) (by decide) (fun K hK => ?_)
  refine value_ (w1 := ?_) (v := ?_) (by rfl) rfl ?_ ?_
  rotate_left 2
  · go_simp
    constructor
    · rfl
    · rfl
  have hal := below_alloc (Below.refl r1.heap.size r1) (.cells #[.int .i64 x.f0, .int .i64 x.f1, .string x.f2, .slice A1 x.f3.length c1, .int .i64 y.f0, .int .i64 y.f1, .string y.f2, .slice A2 y.f3.length c2] 58)
  replace HB := below_step HB hal
  replace B_5 := blk_below B_5 hal
  replace B_7 := blk_below B_7 hal
  replace B_9 := blk_below B_9 hal
  replace B_11 := blk_below B_11 hal
  replace F_x := Kd.F_below F_x hal
  replace F_y := Kd.F_below F_y hal
  replace F_z := Kd.F_below F_z hal
  replace F_4 := Kd.F_below F_4 hal
  have B_L2 := heap_alloc_new r1 (.cells #[.int .i64 x.f0, .int .i64 x.f1, .string x.f2, .slice A1 x.f3.length c1, .int .i64 y.f0, .int .i64 y.f1, .string y.f2, .slice A2 y.f3.length c2] 58)
  clear hal
  refine hK.out _ _ ⟨(blk_cell B_5 0).trans rfl, (blk_cell B_5 1).trans rfl, (blk_cell B_5 2).trans rfl, (blk_cell B_5 3).trans rfl, (blk_cell B_7 0).trans rfl, (blk_cell B_7 1).trans rfl, (blk_cell B_7 2).trans rfl, (blk_cell B_7 3).trans rfl, (blk_cell B_9 0).trans rfl, (blk_cell B_9 1).trans rfl, (blk_cell B_9 2).trans rfl, (blk_cell B_9 3).trans rfl, (blk_cell B_11 0).trans rfl, (blk_cell B_11 1).trans rfl, (blk_cell B_11 2).trans rfl, (blk_cell B_11 3).trans rfl⟩ (fun hHeld => ?_)
  clear hK K
  refine norm_ (a' := ?_) ?_ ?_
  rotate_left
  · show Act.put _ (some 75) _ = _
    simp only [Act.put, List.setIfInBounds_toArray, List.set_cons_zero, List.set_cons_succ, i64_w, i32_w]
    rfl
  refine one_ (i := 17) (N := some 76) #[true, true, true, true, true, true, true, true, true, true, true, true, true, true, true, true, true, true, false, false, false] rfl rfl (by kernel_rfl) (by decide) (fun K hK => ?_)
  refine goes_ Try.func34 (by kernel_rfl) rfl #[.string ⟨#[44]⟩, .slice (some ⟨r1.heap.size, 0, none⟩) 2 2] (by rfl) rfl rfl (by (try simp only [List.map_toArray, List.map_cons, List.map_nil]); first | done | rfl) ?_
  refine (f_calls _ _ _ _ _).mono ?_
  rintro e r2 ⟨rfl, hb⟩
  refine ⟨_, rfl, ?_⟩
  replace HB := below_step HB hb
  replace B_5 := blk_below B_5 hb
  replace B_7 := blk_below B_7 hb
  replace B_9 := blk_below B_9 hb
  replace B_11 := blk_below B_11 hb
  replace B_L2 := blk_below B_L2 hb
  replace F_x := Kd.F_below F_x hb
  replace F_y := Kd.F_below F_y hb
  replace F_z := Kd.F_below F_z hb
  replace F_4 := Kd.F_below F_4 hb
  have F_2 := lit2 (x := x) (y := y) B_L2 hc1.out (Kd.F_mono (Kd.F_bound F_x) (ok' := fun q => q < r2.heap.size) (fun q hq => hq.2)) hc2.out (Kd.F_mono (Kd.F_bound F_y) (ok' := fun q => q < r2.heap.size) (fun q hq => hq.2))
  clear hb
  refine hK.out _ _ ⟨(blk_cell B_5 0).trans rfl, (blk_cell B_5 1).trans rfl, (blk_cell B_5 2).trans rfl, (blk_cell B_5 3).trans rfl, (blk_cell B_7 0).trans rfl, (blk_cell B_7 1).trans rfl, (blk_cell B_7 2).trans rfl, (blk_cell B_7 3).trans rfl, (blk_cell B_9 0).trans rfl, (blk_cell B_9 1).trans rfl, (blk_cell B_9 2).trans rfl, (blk_cell B_9 3).trans rfl, (blk_cell B_11 0).trans rfl, (blk_cell B_11 1).trans rfl, (blk_cell B_11 2).trans rfl, (blk_cell B_11 3).trans rfl⟩ (fun hHeld => ?_)
  clear hK K
  refine norm_ (a' := ?_) ?_ ?_
  rotate_left
  · show Act.put _ (some 76) _ = _
    simp only [Act.put, List.setIfInBounds_toArray, List.set_cons_zero, List.set_cons_succ, i64_w, i32_w]
    rfl
  clear B_L2
  refine one_ (i := 18) (N := some 77) #[true, true, true, true, true, true, true, true, true, true, true, true, true, true, true, true, true, true, true, false, false] rfl rfl (by kernel_rfl) (by decide) (fun K hK => ?_)
  refine goes_ Try.func35 (by kernel_rfl) rfl #[.agg #[.int .i64 (tAnd2 x y).f0, .int .i64 (tAnd2 x y).f1, .string (tAnd2 x y).f2, .slice A3 (tAnd2 x y).f3.length c3], .agg #[.int .i64 (tAnd2 x y).f0, .int .i64 (tAnd2 x y).f1, .string (tAnd2 x y).f2, .slice (some ⟨r1.heap.size, 0, none⟩) (tAnd2 x y).f3.length 2]] (by rfl) rfl rfl (by (try simp only [List.map_toArray, List.map_cons, List.map_nil]); first | done | rfl) ?_
  refine (same_calls (tAnd2 x y) (by rw [and_sz]; have := hsx.out; have := hsy.out; omega) _ _ _ _ _ (Kd.F_now F_z) hc3.out (Kd.F_now F_2) (Nat.le_refl 2)).mono ?_
  rintro e r3 ⟨rfl, hb⟩
  refine ⟨_, rfl, ?_⟩
  replace HB := below_step HB hb
  replace B_5 := blk_below B_5 hb
  replace B_7 := blk_below B_7 hb
  replace B_9 := blk_below B_9 hb
  replace B_11 := blk_below B_11 hb
  replace F_x := Kd.F_below F_x hb
  replace F_y := Kd.F_below F_y hb
  replace F_z := Kd.F_below F_z hb
  replace F_4 := Kd.F_below F_4 hb
  replace F_2 := Kd.F_below F_2 hb
  clear hb
  refine hK.out _ _ ⟨(blk_cell B_5 0).trans rfl, (blk_cell B_5 1).trans rfl, (blk_cell B_5 2).trans rfl, (blk_cell B_5 3).trans rfl, (blk_cell B_7 0).trans rfl, (blk_cell B_7 1).trans rfl, (blk_cell B_7 2).trans rfl, (blk_cell B_7 3).trans rfl, (blk_cell B_9 0).trans rfl, (blk_cell B_9 1).trans rfl, (blk_cell B_9 2).trans rfl, (blk_cell B_9 3).trans rfl, (blk_cell B_11 0).trans rfl, (blk_cell B_11 1).trans rfl, (blk_cell B_11 2).trans rfl, (blk_cell B_11 3).trans rfl⟩ (fun hHeld => ?_)
  clear hK K
  refine norm_ (a' := ?_) ?_ ?_
  rotate_left
  · show Act.put _ (some 77) _ = _
    simp only [Act.put, List.setIfInBounds_toArray, List.set_cons_zero, List.set_cons_succ, i64_w, i32_w]
    rfl
  clear F_2
  clear F_4
  refine pure_ (i := 19) (N := some 78) (v := ?_) (a' := ?_) #[true, true, true, true, true, true, true, true, true, true, true, true, true, true, true, true, true, true, true, true, false] rfl rfl (by kernel_rfl) (fun _ _ _ h => h) (Or.inl ⟨by rfl, ?_⟩) ?_ ?_
  rotate_left
  · intro w'
    go_simp
    with_reducible rfl
  rotate_left
  · simp only [Act.put, List.setIfInBounds_toArray, List.set_cons_zero, List.set_cons_succ, i64_w, i32_w]
    rfl
  refine pure_ (i := 20) (N := some 79) (v := ?_) (a' := ?_) #[true, true, true, true, true, true, true, true, true, true, true, true, true, true, true, true, true, true, true, true, true] rfl rfl (by kernel_rfl) (fun _ _ _ h => h) (Or.inl ⟨by rfl, ?_⟩) ?_ ?_
  rotate_left
  · intro w'
    go_simp
    with_reducible rfl
  rotate_left
  · simp only [Act.put, List.setIfInBounds_toArray, List.set_cons_zero, List.set_cons_succ, i64_w, i32_w]
    rfl
  refine done_ (by kernel_rfl) ?_
  clear hHeld
  clear B_11
  have d0 : r3.cell? ⟨w11.heap.size, 0, none⟩ = some (.int .i64 (tAnd2 x y).f0) := (blk_cell B_9 0).trans rfl
  have d1 : r3.cell? ⟨w11.heap.size, 1, none⟩ = some (.int .i64 (tAnd2 x y).f1) := (blk_cell B_9 1).trans rfl
  have d2 : r3.cell? ⟨w11.heap.size, 2, none⟩ = some (.string (tAnd2 x y).f2) := (blk_cell B_9 2).trans rfl
  have d3 : r3.cell? ⟨w11.heap.size, 3, none⟩ = some (.slice A3 (tAnd2 x y).f3.length c3) := (blk_cell B_9 3).trans rfl
  replace HB := Aside0.mk HB
  replace B_5 := Aside0.mk B_5
  replace B_7 := Aside0.mk B_7
  replace B_9 := Aside0.mk B_9
  replace F_x := Aside0.mk F_x
  replace F_y := Aside0.mk F_y
  replace F_z := Aside0.mk F_z
  go_wp2_with fail
  replace HB := HB.out
  replace B_5 := B_5.out
  replace B_7 := B_7.out
  replace B_9 := B_9.out
  replace F_x := F_x.out
  replace F_y := F_y.out
  replace F_z := F_z.out
  clear d0 d1 d2 d3
  refine (flat_calls 1000000 (by omega) (tAnd2 x y) (by rw [and_sz]; have := hsx.out; have := hsy.out; omega) A3 c3 _ _ F_z hc3.out).mono ?_
  rintro e w13 ⟨uf, rfl, N_f, hb⟩
  replace HB := below_step HB hb
  replace B_5 := blk_below B_5 hb
  replace B_7 := blk_below B_7 hb
  replace B_9 := blk_below B_9 hb
  replace F_x := Kd.F_below F_x hb
  replace F_y := Kd.F_below F_y hb
  replace F_z := Kd.F_below F_z hb
  rw [hXY.out] at N_f
  obtain ⟨Af, cf, ef⟩ := Kd.N_slice N_f
  subst ef
  have F_L := Kd.N_F N_f
  clear N_f F_z B_9
  clear hb
  have HL0 : Aside0 (∀ k : Nat, k < (X ++ Y).length → ¬ kindV (rd_T58 (X ++ Y) k) = 2 ∧ 0 ≤ kindV (rd_T58 (X ++ Y) k)) := ⟨fun k hk => hkinds.out _ (rd_mem hk)⟩
  have hlm : (X ++ Y).length ≤ 1000000 := hlen.out
  obtain ⟨L, hL⟩ : ∃ L, X ++ Y = L := ⟨_, rfl⟩
  rw [hL] at F_L HL0 hlm
  have hLh := Aside0.mk hL
  rw [hL]
  clear hL
  replace HB := Aside0.mk HB
  replace B_5 := Aside0.mk B_5
  replace B_7 := Aside0.mk B_7
  replace F_x := Aside0.mk F_x
  replace F_y := Aside0.mk F_y
  replace F_L := Aside0.mk F_L
  go_wp2_with fail
  have B0 := Aside0.mk (Below.refl w13.heap.size w13)
  go_loopw [84] (fun i wr => ∃ (k : Nat), i = .int .i64 k ∧ Aside0 (k ≤ L.length) ∧ Aside0 (Below w13.heap.size w13 wr)) (fun i _ => L.length - (intOf i).toNat)
  case atStart => exact ⟨0, rfl, ⟨by omega⟩, B0⟩
  case round =>
    clear B0
    obtain ⟨k, rfl, hk, HR⟩ := hrel
    by_cases hlt : k < L.length
    · have hkk := HL0.out k hlt
      obtain ⟨ad, Be, de, ead, e0, e1, e2, e3, hde, hBe⟩ := at_T58 (Kd.F_now F_L.out) (k : Int) (by omega) (by omega)
      simp only [Int.toNat_natCast] at e0 e1 e2 e3
      subst ead
      replace e0 := ck HR.out e0
      replace e1 := ck HR.out e1
      replace e2 := ck HR.out e2
      replace e3 := ck HR.out e3
      generalize rd_T58 L k = z at *
      obtain ⟨v, hv⟩ : ∃ v, kindV z = v := ⟨_, rfl⟩
      rw [hv] at hkk
      obtain ⟨k2, k0⟩ := hkk
      have kq := fun W => kind_calls z Be de W
      rw [hv] at kq
      replace kq := Aside0.mk kq
      clear hv hBe hde
      have j1 : (v == 2) = false := by simpa using k2
      have j2 : decide (v < 0) = false := decide_eq_false (by omega)
      have j3 : ¬ v < 0 := by omega
      have hlt2 : decide ((k : Int) < (L.length : Int)) = true := decide_eq_true (by omega)
      have hlt3 : decide (k < L.length) = true := decide_eq_true hlt
      have bz := Aside0.mk (heap_alloc_new wr (.cells #[.int .i64 z.f0, .int .i64 z.f1, .string z.f2, .slice Be z.f3.length de] 58))
      have HR1 := Aside0.mk (below_step HR.out (below_alloc (Below.refl wr.heap.size wr) (.cells #[.int .i64 z.f0, .int .i64 z.f1, .string z.f2, .slice Be z.f3.length de] 58)))
      have z0 : (wr.alloc (.cells #[.int .i64 z.f0, .int .i64 z.f1, .string z.f2, .slice Be z.f3.length de] 58)).cell? ⟨wr.heap.size, 0, none⟩ = some (.int .i64 z.f0) := (blk_cell bz.out 0).trans rfl
      have z1 : (wr.alloc (.cells #[.int .i64 z.f0, .int .i64 z.f1, .string z.f2, .slice Be z.f3.length de] 58)).cell? ⟨wr.heap.size, 1, none⟩ = some (.int .i64 z.f1) := (blk_cell bz.out 1).trans rfl
      have z2 : (wr.alloc (.cells #[.int .i64 z.f0, .int .i64 z.f1, .string z.f2, .slice Be z.f3.length de] 58)).cell? ⟨wr.heap.size, 2, none⟩ = some (.string z.f2) := (blk_cell bz.out 2).trans rfl
      have z3 : (wr.alloc (.cells #[.int .i64 z.f0, .int .i64 z.f1, .string z.f2, .slice Be z.f3.length de] 58)).cell? ⟨wr.heap.size, 3, none⟩ = some (.slice Be z.f3.length de) := (blk_cell bz.out 3).trans rfl
      go_wp2_with fail
      refine (kq.out _).mono ?_
      rintro e wa ⟨rfl, hb⟩
      have bz2 := Aside0.mk (blk_below bz.out hb)
      have HR2 := Aside0.mk (below_step HR1.out hb)
      clear hb z0 z1 z2 z3
      have z0 : wa.cell? ⟨wr.heap.size, 0, none⟩ = some (.int .i64 z.f0) := (blk_cell bz2.out 0).trans rfl
      have z1 : wa.cell? ⟨wr.heap.size, 1, none⟩ = some (.int .i64 z.f1) := (blk_cell bz2.out 1).trans rfl
      have z2 : wa.cell? ⟨wr.heap.size, 2, none⟩ = some (.string z.f2) := (blk_cell bz2.out 2).trans rfl
      have z3 : wa.cell? ⟨wr.heap.size, 3, none⟩ = some (.slice Be z.f3.length de) := (blk_cell bz2.out 3).trans rfl
      go_wp2_with fail
      refine (kq.out _).mono ?_
      rintro e wb ⟨rfl, hb⟩
      have HR3 := Aside0.mk (below_step HR2.out hb)
      clear hb
      go_wp2_with fail
      go_roundw
      case rel => exact ⟨k + 1, by go_num, ⟨by omega⟩, HR3⟩
      case measure => simp [intOf]; omega
    · have hlt2 : decide ((k : Int) < (L.length : Int)) = false := decide_eq_false (by omega)
      have hlt3 : decide (k < L.length) = false := decide_eq_false hlt
      obtain rfl : k = L.length := by have := hk.out; omega
      have hb := HR.out
      replace HB := HB.out
      replace B_5 := B_5.out
      replace B_7 := B_7.out
      replace F_x := F_x.out
      replace F_y := F_y.out
      replace F_L := F_L.out
      replace HB := below_step HB hb
      replace B_5 := blk_below B_5 hb
      replace B_7 := blk_below B_7 hb
      replace F_x := Kd.F_below F_x hb
      replace F_y := Kd.F_below F_y hb
      replace F_L := Kd.F_below F_L hb
      clear hb HR
      replace HB := Aside0.mk HB
      replace B_5 := Aside0.mk B_5
      replace B_7 := Aside0.mk B_7
      replace F_x := Aside0.mk F_x
      replace F_y := Aside0.mk F_y
      replace F_L := Aside0.mk F_L
      go_wp2_with fail
      replace HB := HB.out
      replace B_5 := B_5.out
      replace B_7 := B_7.out
      replace F_x := F_x.out
      replace F_y := F_y.out
      replace F_L := F_L.out
      refine start_ (n := 8) (S := fun w' => w'.cell? ⟨w5.heap.size, 0, none⟩ = some (.int .i64 x.f0) ∧ w'.cell? ⟨w5.heap.size, 1, none⟩ = some (.int .i64 x.f1) ∧ w'.cell? ⟨w5.heap.size, 2, none⟩ = some (.string x.f2) ∧ w'.cell? ⟨w5.heap.size, 3, none⟩ = some (.slice A1 x.f3.length c1) ∧ w'.cell? ⟨w7.heap.size, 0, none⟩ = some (.int .i64 y.f0) ∧ w'.cell? ⟨w7.heap.size, 1, none⟩ = some (.int .i64 y.f1) ∧ w'.cell? ⟨w7.heap.size, 2, none⟩ = some (.string y.f2) ∧ w'.cell? ⟨w7.heap.size, 3, none⟩ = some (.slice A2 y.f3.length c2)) (ds := [5, 6]) #[false, false, false, false, false, false, false, false] (by kernel_rfl) rfl rfl ⟨(blk_cell (blk_drew B_5) 0).trans rfl, (blk_cell (blk_drew B_5) 1).trans rfl, (blk_cell (blk_drew B_5) 2).trans rfl, (blk_cell (blk_drew B_5) 3).trans rfl, (blk_cell (blk_drew B_7) 0).trans rfl, (blk_cell (blk_drew B_7) 1).trans rfl, (blk_cell (blk_drew B_7) 2).trans rfl, (blk_cell (blk_drew B_7) 3).trans rfl⟩ (fun hHeld => ?_)
      replace B_5 := blk_drew B_5
      replace B_7 := blk_drew B_7
      replace HB := HB.drew
      replace F_x := Kd.F_drew F_x
      replace F_y := Kd.F_drew F_y
      replace F_L := Kd.F_drew F_L
      generalize wr.drew = t0 at *
      refine pure_ (i := 0) (N := some 97) (v := ?_) (a' := ?_) #[true, false, false, false, false, false, false, false] rfl rfl (by kernel_rfl) (fun _ _ _ h => h) (Or.inl ⟨by rfl, ?_⟩) ?_ ?_
      rotate_left
      · intro w'
        go_simp
        with_reducible rfl
      rotate_left
      · simp only [Act.put, List.setIfInBounds_toArray, List.set_cons_zero, List.set_cons_succ, i64_w, i32_w]
        rfl
      refine take_ (i := 1) (N := some 98) (v := ?_) (a' := ?_) #[true, true, false, false, false, false, false, false] rfl rfl (by kernel_rfl) (fun _ _ _ h => h) (Or.inl ⟨by rfl, ?_⟩) hHeld ?_ ?_
      rotate_left
      · rintro w' ⟨s0, s1, s2, s3, s4, s5, s6, s7⟩
        go_simp
        with_reducible rfl
      rotate_left
      · simp only [Act.put, List.setIfInBounds_toArray, List.set_cons_zero, List.set_cons_succ, i64_w, i32_w]
        rfl
      refine take_ (i := 3) (N := some 100) (v := ?_) (a' := ?_) #[true, true, false, true, false, false, false, false] rfl rfl (by kernel_rfl) (fun _ _ _ h => h) (Or.inl ⟨by rfl, ?_⟩) hHeld ?_ ?_
      rotate_left
      · rintro w' ⟨s0, s1, s2, s3, s4, s5, s6, s7⟩
        go_simp
        with_reducible rfl
      rotate_left
      · simp only [Act.put, List.setIfInBounds_toArray, List.set_cons_zero, List.set_cons_succ, i64_w, i32_w]
        rfl
      have hFL0 := Kd.F_mono (Kd.F_bound F_L) (ok' := fun q => q < t0.heap.size) (fun q hq => hq.2)
      have hs0 : w.heap.size ≤ t0.heap.size := HB.size
      refine one_ (i := 2) (N := some 99) #[true, true, true, true, false, false, false, false] rfl rfl (by kernel_rfl) (by decide) (fun K hK => ?_)
      refine goes_ Try.func43 (by kernel_rfl) rfl #[.agg #[.int .i64 x.f0, .int .i64 x.f1, .string x.f2, .slice A1 x.f3.length c1]] (by rfl) rfl rfl (by (try simp only [List.map_toArray, List.map_cons, List.map_nil]); first | done | rfl) ?_
      refine (flat_calls 1000000 (by omega) x (by have := hsx.out; omega) A1 c1 _ _ F_x hc1.out).mono ?_
      rintro e t1 ⟨ux, rfl, N1, hb⟩
      have hs01_ : t0.heap.size ≤ t1.heap.size := hb.size
      refine ⟨_, rfl, ?_⟩
      replace HB := below_step HB hb
      replace B_5 := blk_below B_5 hb
      replace B_7 := blk_below B_7 hb
      replace F_x := Kd.F_below F_x hb
      replace F_y := Kd.F_below F_y hb
      replace F_L := Kd.F_below F_L hb
      rw [hX.out] at N1
      have hlt := Kd.N_lt N1
      have hFL := Kd.F_below hFL0 hb
      skip
      clear hb
      refine hK.out _ _ ⟨(blk_cell B_5 0).trans rfl, (blk_cell B_5 1).trans rfl, (blk_cell B_5 2).trans rfl, (blk_cell B_5 3).trans rfl, (blk_cell B_7 0).trans rfl, (blk_cell B_7 1).trans rfl, (blk_cell B_7 2).trans rfl, (blk_cell B_7 3).trans rfl⟩ (fun hHeld => ?_)
      clear hK K
      refine norm_ (a' := ?_) ?_ ?_
      rotate_left
      · show Act.put _ (some 99) _ = _
        simp only [Act.put, List.setIfInBounds_toArray, List.set_cons_zero, List.set_cons_succ, i64_w, i32_w]
        rfl
      refine one_ (i := 4) (N := some 101) #[true, true, true, true, true, false, false, false] rfl rfl (by kernel_rfl) (by decide) (fun K hK => ?_)
      refine goes_ Try.func43 (by kernel_rfl) rfl #[.agg #[.int .i64 y.f0, .int .i64 y.f1, .string y.f2, .slice A2 y.f3.length c2]] (by rfl) rfl rfl (by (try simp only [List.map_toArray, List.map_cons, List.map_nil]); first | done | rfl) ?_
      refine (flat_calls 1000000 (by omega) y (by have := hsy.out; omega) A2 c2 _ _ F_y hc2.out).mono ?_
      rintro e t2 ⟨uy, rfl, N2, hb⟩
      refine ⟨_, rfl, ?_⟩
      replace HB := below_step HB hb
      replace B_5 := blk_below B_5 hb
      replace B_7 := blk_below B_7 hb
      replace F_x := Kd.F_below F_x hb
      replace F_y := Kd.F_below F_y hb
      replace F_L := Kd.F_below F_L hb
      rw [hY.out] at N2
      replace N1 := Kd.N_below N1 hb
      replace hFL := Kd.F_below hFL hb
      have hs1 : t1.heap.size ≤ t2.heap.size := hb.size
      have hs01 : t0.heap.size ≤ t1.heap.size := hs01_
      clear hb
      refine hK.out _ _ ⟨(blk_cell B_5 0).trans rfl, (blk_cell B_5 1).trans rfl, (blk_cell B_5 2).trans rfl, (blk_cell B_5 3).trans rfl, (blk_cell B_7 0).trans rfl, (blk_cell B_7 1).trans rfl, (blk_cell B_7 2).trans rfl, (blk_cell B_7 3).trans rfl⟩ (fun hHeld => ?_)
      clear hK K
      refine norm_ (a' := ?_) ?_ ?_
      rotate_left
      · show Act.put _ (some 101) _ = _
        simp only [Act.put, List.setIfInBounds_toArray, List.set_cons_zero, List.set_cons_succ, i64_w, i32_w]
        rfl
      obtain ⟨A9, c9, e9⟩ := Kd.N_slice N2
      subst e9
      have hbt : ∀ k, ux.ownBlock = some k → t0.heap.size ≤ k := Kd.N_base N1
      refine last_ (i := 5) (N := some 102) #[true, true, true, true, true, true, false, false] rfl rfl (by kernel_rfl) (by decide) (fun K hK => ?_)
      refine Kd.N_append_rows_step k58 (w0 := w) w.heap.size (by rfl) (.tmp 99) (.tmp 101) 56 58 (.agg #[(.int .i64 0), (.int .i64 0), (.string ⟨#[]⟩), (.slice none 0 0)]) 56 rfl Try.underlying56 info58 rfl (by decide) (by omega) ux X Y A9 Y.length c9 (fun k => t0.heap.size ≤ k) (fun k => t1.heap.size ≤ k) rfl rfl (Kd.N_lower N1 hs0) (Kd.N_F N2) (fun k hk => ⟨Nat.le_trans hs01 hk, fun he => by have h8 := hlt k he.symm; have hk2 : t1.heap.size ≤ k := hk; omega⟩) (fun k hk => Nat.le_trans (Nat.le_trans hs01 hs1) hk) HB HB.size (by rw [← List.length_append, hLh.out]; omega) ?_
      intro v8 w8 N8 HB8 hg8 hat8
      rw [hLh.out] at N8
      obtain ⟨A8, c8, e8⟩ := Kd.N_slice N8
      subst e8
      have F_8 := Kd.N_F N8
      have F_9 := Kd.F_step hFL (fun q hq hlq => hg8.block q hlq (fun he => by have h9 := hbt q he.symm; have hq2 : q < t0.heap.size := hq; omega))
      refine hK.out _ _ ?_
      clear hK K
      refine norm_ (a' := ?_) ?_ ?_
      rotate_left
      · show Act.put _ (some 102) _ = _
        simp only [Act.put, List.setIfInBounds_toArray, List.set_cons_zero, List.set_cons_succ, i64_w, i32_w]
        rfl
      refine last_ (i := 6) (N := some 103) #[true, true, true, true, true, true, true, false] rfl rfl (by kernel_rfl) (by decide) (fun K hK => ?_)
      refine goes_ Try.func44 (by kernel_rfl) rfl #[.slice Af L.length cf, .slice A8 L.length c8] (by rfl) rfl rfl (by (try simp only [List.map_toArray, List.map_cons, List.map_nil]); first | done | rfl) ?_
      refine (all_calls L hlm (fun k hk => hszs.out _ (by rw [hLh.out]; exact rd_mem hk)) Af A8 cf c8 _ (Kd.F_now F_9) (Kd.F_now F_8)).mono ?_
      rintro e w9 ⟨rfl, hb⟩
      refine ⟨_, rfl, ?_⟩
      have HB9 := Aside0.mk (below_step HB8 hb)
      refine hK.out _ _ ?_
      clear hK K
      refine norm_ (a' := ?_) ?_ ?_
      rotate_left
      · show Act.put _ (some 103) _ = _
        simp only [Act.put, List.setIfInBounds_toArray, List.set_cons_zero, List.set_cons_succ, i64_w, i32_w]
        rfl
      refine pure_ (i := 7) (N := some 4) (v := ?_) (a' := ?_) #[true, true, true, true, true, true, true, true] rfl rfl (by kernel_rfl) (fun _ _ _ h => h) (Or.inl ⟨by rfl, ?_⟩) ?_ ?_
      rotate_left
      · intro w'
        go_simp
        with_reducible rfl
      rotate_left
      · simp only [Act.put, List.setIfInBounds_toArray, List.set_cons_zero, List.set_cons_succ, i64_w, i32_w]
        rfl
      refine done_ (by kernel_rfl) ?_
      clear hb
      go_wp2_with fail
      go_ret
      exact ⟨rfl, HB9.out⟩
end Go.Proofs.Ythdnaliahdohhaa.H
