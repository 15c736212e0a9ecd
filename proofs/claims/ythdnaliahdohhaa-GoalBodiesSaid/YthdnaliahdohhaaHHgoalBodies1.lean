/- GoalBodies: the walk. -/
import Derived.Test.YthdnaliahdohhaaHHall
import Derived.Test.YthdnaliahdohhaaHHpureC
namespace Go.Proofs.Ythdnaliahdohhaa.H
open Go.RowKit Go.Proofs.YthdnaliahdohhaaW.PrintWords Go.Proofs.YthdnaliahdohhaaW.PrintLast Go.Proofs.YthdnaliahdohhaaW.PrintMore Go.Proofs.Ythdnaliahdohhaa.Map Go.Proofs.Ythdnaliahdohhaa.Reg
attribute [local go_sem] max2_int min2_int max_two min_two max_three min_three max_four min_four
set_option linter.unusedVariables false
set_option linter.unusedSimpArgs false
set_option maxHeartbeats 8000000 in
set_option maxRecDepth 100000 in
theorem gb_1 (l m : List S146) (A B : Option Addr) (c d : Nat) (w : World) (hC : Kd.C k146 w A l.length l) (hc : l.length ≤ c) (hD : Kd.C k146 w B m.length m) (hd : m.length ≤ d) (hg : 60 < l.length) :
    Calls Try.prog 9 #[.slice A l.length c, .slice B m.length d] w fun e w' => e = .returned (.bool true) ∧ Below w.heap.size w w' := by
  have HB := Below.refl w.heap.size w
  replace hC := Aside0.mk hC
  replace hc := Aside0.mk hc
  replace hD := Aside0.mk hD
  replace hd := Aside0.mk hd
  have HG : Aside0 (decide (60 < l.length) = true) := ⟨by simpa using hg⟩
  replace hg := Aside0.mk hg
  go_enter Try.func9, Try.ntmps9
  replace HB := Aside0.mk HB
  go_wp2_with fail
  replace HB := HB.out
  refine (alive_calls _).mono ?_
  rintro e w1 ⟨rfl, hb⟩
  replace HB := below_step HB hb
  clear hb
  replace HB := Aside0.mk HB
  go_wp2_with fail
  replace HB := HB.out
  refine (great_calls l A c _).mono ?_
  rintro e w2 ⟨rfl, hb⟩
  replace HB := below_step HB hb
  rw [HG.out]
  clear hb
  replace HB := Aside0.mk HB
  go_wp2_with fail
  replace HB := HB.out
  go_ret
  exact ⟨rfl, HB⟩
set_option maxHeartbeats 8000000 in
set_option maxRecDepth 100000 in
theorem gb_2 (l m : List S146) (A B : Option Addr) (c d : Nat) (w : World) (hC : Kd.C k146 w A l.length l) (hc : l.length ≤ c) (hD : Kd.C k146 w B m.length m) (hd : m.length ≤ d) (hg : ¬ 60 < l.length) (hg2 : 60 < m.length) :
    Calls Try.prog 9 #[.slice A l.length c, .slice B m.length d] w fun e w' => e = .returned (.bool true) ∧ Below w.heap.size w w' := by
  have HB := Below.refl w.heap.size w
  replace hC := Aside0.mk hC
  replace hc := Aside0.mk hc
  replace hD := Aside0.mk hD
  replace hd := Aside0.mk hd
  have HG : Aside0 (decide (60 < l.length) = false) := ⟨by simpa using hg⟩
  replace hg := Aside0.mk hg
  have HG2 : Aside0 (decide (60 < m.length) = true) := ⟨by simpa using hg2⟩
  replace hg2 := Aside0.mk hg2
  go_enter Try.func9, Try.ntmps9
  replace HB := Aside0.mk HB
  go_wp2_with fail
  replace HB := HB.out
  refine (alive_calls _).mono ?_
  rintro e w1 ⟨rfl, hb⟩
  replace HB := below_step HB hb
  clear hb
  replace HB := Aside0.mk HB
  go_wp2_with fail
  replace HB := HB.out
  refine (great_calls l A c _).mono ?_
  rintro e w2 ⟨rfl, hb⟩
  replace HB := below_step HB hb
  rw [HG.out]
  clear hb
  replace HB := Aside0.mk HB
  go_wp2_with fail
  replace HB := HB.out
  refine (great_calls m B d _).mono ?_
  rintro e w3 ⟨rfl, hb⟩
  replace HB := below_step HB hb
  rw [HG2.out]
  clear hb
  replace HB := Aside0.mk HB
  go_wp2_with fail
  replace HB := HB.out
  go_ret
  exact ⟨rfl, HB⟩
set_option maxHeartbeats 8000000 in
set_option maxRecDepth 100000 in
theorem gb_3 (l m : List S146) (A B : Option Addr) (c d : Nat) (w : World) (hC : Kd.C k146 w A l.length l) (hc : l.length ≤ c) (hD : Kd.C k146 w B m.length m) (hd : m.length ≤ d) (hg : ¬ 60 < l.length) (hg2 : ¬ 60 < m.length) (t u : S58) (hgood : ∀ (A : Option Addr) (c : Nat) (w : World), Kd.C k146 w A l.length l → l.length ≤ c → Calls Try.prog 33 #[.slice A l.length c] w (RetT t w)) (hgoodu : ∀ (A : Option Addr) (c : Nat) (w : World), Kd.C k146 w A m.length m → m.length ≤ c → Calls Try.prog 33 #[.slice A m.length c] w (RetT u w)) (hs : szT t ≤ 500) (hsu : szT u ≤ 500) (x y z : S58) (e2 : Int) (hr1 : bodyR t = (13, x)) (hr2 : bodyR u = (e2, y)) (hr3 : bodyR (tAnd2 t u) = (13, z)) :
    Calls Try.prog 9 #[.slice A l.length c, .slice B m.length d] w fun e w' => e = .returned (.bool true) ∧ Below w.heap.size w w' := by
  replace hgood := Aside0.mk hgood
  replace hgoodu := Aside0.mk hgoodu
  replace hs := Aside0.mk hs
  replace hsu := Aside0.mk hsu
  have HB := Below.refl w.heap.size w
  replace hC := Aside0.mk hC
  replace hc := Aside0.mk hc
  replace hD := Aside0.mk hD
  replace hd := Aside0.mk hd
  have HG : Aside0 (decide (60 < l.length) = false) := ⟨by simpa using hg⟩
  replace hg := Aside0.mk hg
  have HG2 : Aside0 (decide (60 < m.length) = false) := ⟨by simpa using hg2⟩
  replace hg2 := Aside0.mk hg2
  go_enter Try.func9, Try.ntmps9
  replace HB := Aside0.mk HB
  go_wp2_with fail
  replace HB := HB.out
  refine (alive_calls _).mono ?_
  rintro e w1 ⟨rfl, hb⟩
  replace HB := below_step HB hb
  clear hb
  replace HB := Aside0.mk HB
  go_wp2_with fail
  replace HB := HB.out
  refine (great_calls l A c _).mono ?_
  rintro e w2 ⟨rfl, hb⟩
  replace HB := below_step HB hb
  rw [HG.out]
  clear hb
  replace HB := Aside0.mk HB
  go_wp2_with fail
  replace HB := HB.out
  refine (great_calls m B d _).mono ?_
  rintro e w3 ⟨rfl, hb⟩
  replace HB := below_step HB hb
  rw [HG2.out]
  clear hb
  replace HB := Aside0.mk HB
  go_wp2_with fail
  replace HB := HB.out
  have hC2 := Kd.C_below hC.out HB
  refine (hgood.out A c _ hC2 hc.out).mono ?_
  rintro e w4 ⟨At, ct, rfl, hct, F_t, hb⟩
  replace HB := below_step HB hb
  clear hC2
  replace hct := Aside0.mk hct
  clear hb
  replace HB := Aside0.mk HB
  replace F_t := Aside0.mk F_t
  go_wp2_with fail
  replace HB := HB.out
  replace F_t := F_t.out
  refine (Body_c hr1 (by have := hs.out; omega) At ct w4 (fun q => q < w4.heap.size) (fun _ h => h) (Kd.F_mono (Kd.F_bound F_t) (fun q hq => hq.2)) hct.out).mono ?_
  rintro e w5 ⟨A1, c1, rfl, hc1, F_x, hb⟩
  replace HB := below_step HB hb
  replace F_t := Kd.F_below F_t hb
  replace hc1 := Aside0.mk hc1
  clear hb
  clear F_t
  have hal : Below w5.heap.size w5 (w5.alloc (.cells #[.int .i64 x.f0, .int .i64 x.f1, .string x.f2, .slice A1 x.f3.length c1] 58)) := below_alloc (Below.refl _ _) (.cells #[.int .i64 x.f0, .int .i64 x.f1, .string x.f2, .slice A1 x.f3.length c1] 58)
  replace HB := below_step HB hal
  replace F_x := Kd.F_below F_x hal
  have B_5 := heap_alloc_new w5 (.cells #[.int .i64 x.f0, .int .i64 x.f1, .string x.f2, .slice A1 x.f3.length c1] 58)
  have hz : w5.heap.size = w5.heap.size + 0 := by rfl
  skip
  clear hz
  clear hal
  replace HB := Aside0.mk HB
  replace B_5 := Aside0.mk B_5
  replace F_x := Aside0.mk F_x
  go_wp2_with fail
  replace HB := HB.out
  replace B_5 := B_5.out
  replace F_x := F_x.out
  have hC2 := Kd.C_below hD.out HB
  refine (hgoodu.out B d _ hC2 hd.out).mono ?_
  rintro e w6 ⟨Au, cu, rfl, hcu, F_u, hb⟩
  replace HB := below_step HB hb
  replace B_5 := blk_below B_5 hb
  replace F_x := Kd.F_below F_x hb
  clear hC2
  replace hcu := Aside0.mk hcu
  clear hb
  replace HB := Aside0.mk HB
  replace B_5 := Aside0.mk B_5
  replace F_x := Aside0.mk F_x
  replace F_u := Aside0.mk F_u
  go_wp2_with fail
  replace HB := HB.out
  replace B_5 := B_5.out
  replace F_x := F_x.out
  replace F_u := F_u.out
  refine (Body_c hr2 (by have := hsu.out; omega) Au cu w6 (fun q => q < w6.heap.size) (fun _ h => h) (Kd.F_mono (Kd.F_bound F_u) (fun q hq => hq.2)) hcu.out).mono ?_
  rintro e w7 ⟨A2, c2, rfl, hc2, F_y, hb⟩
  replace HB := below_step HB hb
  replace B_5 := blk_below B_5 hb
  replace F_x := Kd.F_below F_x hb
  replace F_u := Kd.F_below F_u hb
  replace hc2 := Aside0.mk hc2
  clear hb
  clear F_u
  have hal : Below w7.heap.size w7 (w7.alloc (.cells #[.int .i64 y.f0, .int .i64 y.f1, .string y.f2, .slice A2 y.f3.length c2] 58)) := below_alloc (Below.refl _ _) (.cells #[.int .i64 y.f0, .int .i64 y.f1, .string y.f2, .slice A2 y.f3.length c2] 58)
  replace HB := below_step HB hal
  replace B_5 := blk_below B_5 hal
  replace F_x := Kd.F_below F_x hal
  replace F_y := Kd.F_below F_y hal
  have B_7 := heap_alloc_new w7 (.cells #[.int .i64 y.f0, .int .i64 y.f1, .string y.f2, .slice A2 y.f3.length c2] 58)
  have hz : w7.heap.size = w7.heap.size + 0 := by rfl
  skip
  clear hz
  clear hal
  replace HB := Aside0.mk HB
  replace B_5 := Aside0.mk B_5
  replace B_7 := Aside0.mk B_7
  replace F_x := Aside0.mk F_x
  replace F_y := Aside0.mk F_y
  go_wp2_with fail
  replace HB := HB.out
  replace B_5 := B_5.out
  replace B_7 := B_7.out
  replace F_x := F_x.out
  replace F_y := F_y.out
  have hC2 := Kd.C_below hC.out HB
  refine (hgood.out A c _ hC2 hc.out).mono ?_
  rintro e w8 ⟨At2, ct2, rfl, hct2, F_t, hb⟩
  replace HB := below_step HB hb
  replace B_5 := blk_below B_5 hb
  replace B_7 := blk_below B_7 hb
  replace F_x := Kd.F_below F_x hb
  replace F_y := Kd.F_below F_y hb
  clear hC2
  replace hct2 := Aside0.mk hct2
  clear hb
  replace HB := Aside0.mk HB
  replace B_5 := Aside0.mk B_5
  replace B_7 := Aside0.mk B_7
  replace F_x := Aside0.mk F_x
  replace F_y := Aside0.mk F_y
  replace F_t := Aside0.mk F_t
  go_wp2_with fail
  replace HB := HB.out
  replace B_5 := B_5.out
  replace B_7 := B_7.out
  replace F_x := F_x.out
  replace F_y := F_y.out
  replace F_t := F_t.out
  have hC2 := Kd.C_below hD.out HB
  refine (hgoodu.out B d _ hC2 hd.out).mono ?_
  rintro e w9 ⟨Au2, cu2, rfl, hcu2, F_u, hb⟩
  replace HB := below_step HB hb
  replace B_5 := blk_below B_5 hb
  replace B_7 := blk_below B_7 hb
  replace F_x := Kd.F_below F_x hb
  replace F_y := Kd.F_below F_y hb
  replace F_t := Kd.F_below F_t hb
  clear hC2
  replace hcu2 := Aside0.mk hcu2
  clear hb
  replace HB := Aside0.mk HB
  replace B_5 := Aside0.mk B_5
  replace B_7 := Aside0.mk B_7
  replace F_x := Aside0.mk F_x
  replace F_y := Aside0.mk F_y
  replace F_t := Aside0.mk F_t
  replace F_u := Aside0.mk F_u
  go_wp2_with fail
  replace HB := HB.out
  replace B_5 := B_5.out
  replace B_7 := B_7.out
  replace F_x := F_x.out
  replace F_y := F_y.out
  replace F_t := F_t.out
  replace F_u := F_u.out
  have hal : Below w9.heap.size w9 (w9.alloc (.cells #[.int .i64 t.f0, .int .i64 t.f1, .string t.f2, .slice At2 t.f3.length ct2, .int .i64 u.f0, .int .i64 u.f1, .string u.f2, .slice Au2 u.f3.length cu2] 58)) := below_alloc (Below.refl _ _) (.cells #[.int .i64 t.f0, .int .i64 t.f1, .string t.f2, .slice At2 t.f3.length ct2, .int .i64 u.f0, .int .i64 u.f1, .string u.f2, .slice Au2 u.f3.length cu2] 58)
  replace HB := below_step HB hal
  replace B_5 := blk_below B_5 hal
  replace B_7 := blk_below B_7 hal
  replace F_x := Kd.F_below F_x hal
  replace F_y := Kd.F_below F_y hal
  replace F_t := Kd.F_below F_t hal
  replace F_u := Kd.F_below F_u hal
  have B_L := heap_alloc_new w9 (.cells #[.int .i64 t.f0, .int .i64 t.f1, .string t.f2, .slice At2 t.f3.length ct2, .int .i64 u.f0, .int .i64 u.f1, .string u.f2, .slice Au2 u.f3.length cu2] 58)
  have hz : w9.heap.size = w9.heap.size + 0 := by rfl
  skip
  clear hz
  clear hal
  refine (f_calls _ _ _ _ _).mono ?_
  rintro e w10 ⟨rfl, hb⟩
  replace HB := below_step HB hb
  replace B_5 := blk_below B_5 hb
  replace B_7 := blk_below B_7 hb
  replace B_L := blk_below B_L hb
  replace F_x := Kd.F_below F_x hb
  replace F_y := Kd.F_below F_y hb
  replace F_t := Kd.F_below F_t hb
  replace F_u := Kd.F_below F_u hb
  have F_1 := lit2 (x := t) (y := u) B_L hct2.out (Kd.F_mono (Kd.F_bound F_t) (ok' := fun q => q < w10.heap.size) (fun q hq => hq.2)) hcu2.out (Kd.F_mono (Kd.F_bound F_u) (ok' := fun q => q < w10.heap.size) (fun q hq => hq.2))
  clear B_L
  clear hb
  clear F_t
  clear F_u
  replace HB := Aside0.mk HB
  replace B_5 := Aside0.mk B_5
  replace B_7 := Aside0.mk B_7
  replace F_x := Aside0.mk F_x
  replace F_y := Aside0.mk F_y
  replace F_1 := Aside0.mk F_1
  go_wp2_with fail
  replace HB := HB.out
  replace B_5 := B_5.out
  replace B_7 := B_7.out
  replace F_x := F_x.out
  replace F_y := F_y.out
  replace F_1 := F_1.out
  refine (Body_c (x := tAnd2 t u) hr3 (by rw [and_sz]; have := hs.out; have := hsu.out; omega) (some ⟨w9.heap.size, 0, none⟩) 2 w10 (fun q => q < w10.heap.size) (fun _ h => h) (Kd.F_mono (Kd.F_bound F_1) (fun q hq => hq.2)) (Nat.le_refl 2)).mono ?_
  rintro e w11 ⟨A3, c3, rfl, hc3, F_z, hb⟩
  replace HB := below_step HB hb
  replace B_5 := blk_below B_5 hb
  replace B_7 := blk_below B_7 hb
  replace F_x := Kd.F_below F_x hb
  replace F_y := Kd.F_below F_y hb
  replace F_1 := Kd.F_below F_1 hb
  replace hc3 := Aside0.mk hc3
  clear hb
  clear F_1
  have hal : Below w11.heap.size w11 (w11.alloc (.cells #[.int .i64 z.f0, .int .i64 z.f1, .string z.f2, .slice A3 z.f3.length c3] 58)) := below_alloc (Below.refl _ _) (.cells #[.int .i64 z.f0, .int .i64 z.f1, .string z.f2, .slice A3 z.f3.length c3] 58)
  replace HB := below_step HB hal
  replace B_5 := blk_below B_5 hal
  replace B_7 := blk_below B_7 hal
  replace F_x := Kd.F_below F_x hal
  replace F_y := Kd.F_below F_y hal
  replace F_z := Kd.F_below F_z hal
  have B_9 := heap_alloc_new w11 (.cells #[.int .i64 z.f0, .int .i64 z.f1, .string z.f2, .slice A3 z.f3.length c3] 58)
  have hz : w11.heap.size = w11.heap.size + 0 := by rfl
  skip
  clear hz
  clear hal
  replace HB := Aside0.mk HB
  replace B_5 := Aside0.mk B_5
  replace B_7 := Aside0.mk B_7
  replace B_9 := Aside0.mk B_9
  replace F_x := Aside0.mk F_x
  replace F_y := Aside0.mk F_y
  replace F_z := Aside0.mk F_z
  go_wp2_with fail
  replace HB := HB.out
  replace B_5 := B_5.out
  replace B_7 := B_7.out
  replace B_9 := B_9.out
  replace F_x := F_x.out
  replace F_y := F_y.out
  replace F_z := F_z.out
  go_ret
  exact ⟨rfl, HB⟩
set_option maxHeartbeats 8000000 in
set_option maxRecDepth 100000 in
theorem gb_4 (l m : List S146) (A B : Option Addr) (c d : Nat) (w : World) (hC : Kd.C k146 w A l.length l) (hc : l.length ≤ c) (hD : Kd.C k146 w B m.length m) (hd : m.length ≤ d) (hg : ¬ 60 < l.length) (hg2 : ¬ 60 < m.length) (t u : S58) (hgood : ∀ (A : Option Addr) (c : Nat) (w : World), Kd.C k146 w A l.length l → l.length ≤ c → Calls Try.prog 33 #[.slice A l.length c] w (RetT t w)) (hgoodu : ∀ (A : Option Addr) (c : Nat) (w : World), Kd.C k146 w A m.length m → m.length ≤ c → Calls Try.prog 33 #[.slice A m.length c] w (RetT u w)) (hs : szT t ≤ 500) (hsu : szT u ≤ 500) (x y z : S58) (hr1 : bodyR t = (0, x)) (hr2 : bodyR u = (13, y)) (hr3 : bodyR (tAnd2 t u) = (13, z)) :
    Calls Try.prog 9 #[.slice A l.length c, .slice B m.length d] w fun e w' => e = .returned (.bool true) ∧ Below w.heap.size w w' := by
  replace hgood := Aside0.mk hgood
  replace hgoodu := Aside0.mk hgoodu
  replace hs := Aside0.mk hs
  replace hsu := Aside0.mk hsu
  have HB := Below.refl w.heap.size w
  replace hC := Aside0.mk hC
  replace hc := Aside0.mk hc
  replace hD := Aside0.mk hD
  replace hd := Aside0.mk hd
  have HG : Aside0 (decide (60 < l.length) = false) := ⟨by simpa using hg⟩
  replace hg := Aside0.mk hg
  have HG2 : Aside0 (decide (60 < m.length) = false) := ⟨by simpa using hg2⟩
  replace hg2 := Aside0.mk hg2
  go_enter Try.func9, Try.ntmps9
  replace HB := Aside0.mk HB
  go_wp2_with fail
  replace HB := HB.out
  refine (alive_calls _).mono ?_
  rintro e w1 ⟨rfl, hb⟩
  replace HB := below_step HB hb
  clear hb
  replace HB := Aside0.mk HB
  go_wp2_with fail
  replace HB := HB.out
  refine (great_calls l A c _).mono ?_
  rintro e w2 ⟨rfl, hb⟩
  replace HB := below_step HB hb
  rw [HG.out]
  clear hb
  replace HB := Aside0.mk HB
  go_wp2_with fail
  replace HB := HB.out
  refine (great_calls m B d _).mono ?_
  rintro e w3 ⟨rfl, hb⟩
  replace HB := below_step HB hb
  rw [HG2.out]
  clear hb
  replace HB := Aside0.mk HB
  go_wp2_with fail
  replace HB := HB.out
  have hC2 := Kd.C_below hC.out HB
  refine (hgood.out A c _ hC2 hc.out).mono ?_
  rintro e w4 ⟨At, ct, rfl, hct, F_t, hb⟩
  replace HB := below_step HB hb
  clear hC2
  replace hct := Aside0.mk hct
  clear hb
  replace HB := Aside0.mk HB
  replace F_t := Aside0.mk F_t
  go_wp2_with fail
  replace HB := HB.out
  replace F_t := F_t.out
  refine (Body_c hr1 (by have := hs.out; omega) At ct w4 (fun q => q < w4.heap.size) (fun _ h => h) (Kd.F_mono (Kd.F_bound F_t) (fun q hq => hq.2)) hct.out).mono ?_
  rintro e w5 ⟨A1, c1, rfl, hc1, F_x, hb⟩
  replace HB := below_step HB hb
  replace F_t := Kd.F_below F_t hb
  replace hc1 := Aside0.mk hc1
  clear hb
  clear F_t
  have hal : Below w5.heap.size w5 (w5.alloc (.cells #[.int .i64 x.f0, .int .i64 x.f1, .string x.f2, .slice A1 x.f3.length c1] 58)) := below_alloc (Below.refl _ _) (.cells #[.int .i64 x.f0, .int .i64 x.f1, .string x.f2, .slice A1 x.f3.length c1] 58)
  replace HB := below_step HB hal
  replace F_x := Kd.F_below F_x hal
  have B_5 := heap_alloc_new w5 (.cells #[.int .i64 x.f0, .int .i64 x.f1, .string x.f2, .slice A1 x.f3.length c1] 58)
  have hz : w5.heap.size = w5.heap.size + 0 := by rfl
  skip
  clear hz
  clear hal
  replace HB := Aside0.mk HB
  replace B_5 := Aside0.mk B_5
  replace F_x := Aside0.mk F_x
  go_wp2_with fail
  replace HB := HB.out
  replace B_5 := B_5.out
  replace F_x := F_x.out
  have hC2 := Kd.C_below hD.out HB
  refine (hgoodu.out B d _ hC2 hd.out).mono ?_
  rintro e w6 ⟨Au, cu, rfl, hcu, F_u, hb⟩
  replace HB := below_step HB hb
  replace B_5 := blk_below B_5 hb
  replace F_x := Kd.F_below F_x hb
  clear hC2
  replace hcu := Aside0.mk hcu
  clear hb
  replace HB := Aside0.mk HB
  replace B_5 := Aside0.mk B_5
  replace F_x := Aside0.mk F_x
  replace F_u := Aside0.mk F_u
  go_wp2_with fail
  replace HB := HB.out
  replace B_5 := B_5.out
  replace F_x := F_x.out
  replace F_u := F_u.out
  refine (Body_c hr2 (by have := hsu.out; omega) Au cu w6 (fun q => q < w6.heap.size) (fun _ h => h) (Kd.F_mono (Kd.F_bound F_u) (fun q hq => hq.2)) hcu.out).mono ?_
  rintro e w7 ⟨A2, c2, rfl, hc2, F_y, hb⟩
  replace HB := below_step HB hb
  replace B_5 := blk_below B_5 hb
  replace F_x := Kd.F_below F_x hb
  replace F_u := Kd.F_below F_u hb
  replace hc2 := Aside0.mk hc2
  clear hb
  clear F_u
  have hal : Below w7.heap.size w7 (w7.alloc (.cells #[.int .i64 y.f0, .int .i64 y.f1, .string y.f2, .slice A2 y.f3.length c2] 58)) := below_alloc (Below.refl _ _) (.cells #[.int .i64 y.f0, .int .i64 y.f1, .string y.f2, .slice A2 y.f3.length c2] 58)
  replace HB := below_step HB hal
  replace B_5 := blk_below B_5 hal
  replace F_x := Kd.F_below F_x hal
  replace F_y := Kd.F_below F_y hal
  have B_7 := heap_alloc_new w7 (.cells #[.int .i64 y.f0, .int .i64 y.f1, .string y.f2, .slice A2 y.f3.length c2] 58)
  have hz : w7.heap.size = w7.heap.size + 0 := by rfl
  skip
  clear hz
  clear hal
  replace HB := Aside0.mk HB
  replace B_5 := Aside0.mk B_5
  replace B_7 := Aside0.mk B_7
  replace F_x := Aside0.mk F_x
  replace F_y := Aside0.mk F_y
  go_wp2_with fail
  replace HB := HB.out
  replace B_5 := B_5.out
  replace B_7 := B_7.out
  replace F_x := F_x.out
  replace F_y := F_y.out
  have hC2 := Kd.C_below hC.out HB
  refine (hgood.out A c _ hC2 hc.out).mono ?_
  rintro e w8 ⟨At2, ct2, rfl, hct2, F_t, hb⟩
  replace HB := below_step HB hb
  replace B_5 := blk_below B_5 hb
  replace B_7 := blk_below B_7 hb
  replace F_x := Kd.F_below F_x hb
  replace F_y := Kd.F_below F_y hb
  clear hC2
  replace hct2 := Aside0.mk hct2
  clear hb
  replace HB := Aside0.mk HB
  replace B_5 := Aside0.mk B_5
  replace B_7 := Aside0.mk B_7
  replace F_x := Aside0.mk F_x
  replace F_y := Aside0.mk F_y
  replace F_t := Aside0.mk F_t
  go_wp2_with fail
  replace HB := HB.out
  replace B_5 := B_5.out
  replace B_7 := B_7.out
  replace F_x := F_x.out
  replace F_y := F_y.out
  replace F_t := F_t.out
  have hC2 := Kd.C_below hD.out HB
  refine (hgoodu.out B d _ hC2 hd.out).mono ?_
  rintro e w9 ⟨Au2, cu2, rfl, hcu2, F_u, hb⟩
  replace HB := below_step HB hb
  replace B_5 := blk_below B_5 hb
  replace B_7 := blk_below B_7 hb
  replace F_x := Kd.F_below F_x hb
  replace F_y := Kd.F_below F_y hb
  replace F_t := Kd.F_below F_t hb
  clear hC2
  replace hcu2 := Aside0.mk hcu2
  clear hb
  replace HB := Aside0.mk HB
  replace B_5 := Aside0.mk B_5
  replace B_7 := Aside0.mk B_7
  replace F_x := Aside0.mk F_x
  replace F_y := Aside0.mk F_y
  replace F_t := Aside0.mk F_t
  replace F_u := Aside0.mk F_u
  go_wp2_with fail
  replace HB := HB.out
  replace B_5 := B_5.out
  replace B_7 := B_7.out
  replace F_x := F_x.out
  replace F_y := F_y.out
  replace F_t := F_t.out
  replace F_u := F_u.out
  have hal : Below w9.heap.size w9 (w9.alloc (.cells #[.int .i64 t.f0, .int .i64 t.f1, .string t.f2, .slice At2 t.f3.length ct2, .int .i64 u.f0, .int .i64 u.f1, .string u.f2, .slice Au2 u.f3.length cu2] 58)) := below_alloc (Below.refl _ _) (.cells #[.int .i64 t.f0, .int .i64 t.f1, .string t.f2, .slice At2 t.f3.length ct2, .int .i64 u.f0, .int .i64 u.f1, .string u.f2, .slice Au2 u.f3.length cu2] 58)
  replace HB := below_step HB hal
  replace B_5 := blk_below B_5 hal
  replace B_7 := blk_below B_7 hal
  replace F_x := Kd.F_below F_x hal
  replace F_y := Kd.F_below F_y hal
  replace F_t := Kd.F_below F_t hal
  replace F_u := Kd.F_below F_u hal
  have B_L := heap_alloc_new w9 (.cells #[.int .i64 t.f0, .int .i64 t.f1, .string t.f2, .slice At2 t.f3.length ct2, .int .i64 u.f0, .int .i64 u.f1, .string u.f2, .slice Au2 u.f3.length cu2] 58)
  have hz : w9.heap.size = w9.heap.size + 0 := by rfl
  skip
  clear hz
  clear hal
  refine (f_calls _ _ _ _ _).mono ?_
  rintro e w10 ⟨rfl, hb⟩
  replace HB := below_step HB hb
  replace B_5 := blk_below B_5 hb
  replace B_7 := blk_below B_7 hb
  replace B_L := blk_below B_L hb
  replace F_x := Kd.F_below F_x hb
  replace F_y := Kd.F_below F_y hb
  replace F_t := Kd.F_below F_t hb
  replace F_u := Kd.F_below F_u hb
  have F_1 := lit2 (x := t) (y := u) B_L hct2.out (Kd.F_mono (Kd.F_bound F_t) (ok' := fun q => q < w10.heap.size) (fun q hq => hq.2)) hcu2.out (Kd.F_mono (Kd.F_bound F_u) (ok' := fun q => q < w10.heap.size) (fun q hq => hq.2))
  clear B_L
  clear hb
  clear F_t
  clear F_u
  replace HB := Aside0.mk HB
  replace B_5 := Aside0.mk B_5
  replace B_7 := Aside0.mk B_7
  replace F_x := Aside0.mk F_x
  replace F_y := Aside0.mk F_y
  replace F_1 := Aside0.mk F_1
  go_wp2_with fail
  replace HB := HB.out
  replace B_5 := B_5.out
  replace B_7 := B_7.out
  replace F_x := F_x.out
  replace F_y := F_y.out
  replace F_1 := F_1.out
  refine (Body_c (x := tAnd2 t u) hr3 (by rw [and_sz]; have := hs.out; have := hsu.out; omega) (some ⟨w9.heap.size, 0, none⟩) 2 w10 (fun q => q < w10.heap.size) (fun _ h => h) (Kd.F_mono (Kd.F_bound F_1) (fun q hq => hq.2)) (Nat.le_refl 2)).mono ?_
  rintro e w11 ⟨A3, c3, rfl, hc3, F_z, hb⟩
  replace HB := below_step HB hb
  replace B_5 := blk_below B_5 hb
  replace B_7 := blk_below B_7 hb
  replace F_x := Kd.F_below F_x hb
  replace F_y := Kd.F_below F_y hb
  replace F_1 := Kd.F_below F_1 hb
  replace hc3 := Aside0.mk hc3
  clear hb
  clear F_1
  have hal : Below w11.heap.size w11 (w11.alloc (.cells #[.int .i64 z.f0, .int .i64 z.f1, .string z.f2, .slice A3 z.f3.length c3] 58)) := below_alloc (Below.refl _ _) (.cells #[.int .i64 z.f0, .int .i64 z.f1, .string z.f2, .slice A3 z.f3.length c3] 58)
  replace HB := below_step HB hal
  replace B_5 := blk_below B_5 hal
  replace B_7 := blk_below B_7 hal
  replace F_x := Kd.F_below F_x hal
  replace F_y := Kd.F_below F_y hal
  replace F_z := Kd.F_below F_z hal
  have B_9 := heap_alloc_new w11 (.cells #[.int .i64 z.f0, .int .i64 z.f1, .string z.f2, .slice A3 z.f3.length c3] 58)
  have hz : w11.heap.size = w11.heap.size + 0 := by rfl
  skip
  clear hz
  clear hal
  replace HB := Aside0.mk HB
  replace B_5 := Aside0.mk B_5
  replace B_7 := Aside0.mk B_7
  replace B_9 := Aside0.mk B_9
  replace F_x := Aside0.mk F_x
  replace F_y := Aside0.mk F_y
  replace F_z := Aside0.mk F_z
  go_wp2_with fail
  replace HB := HB.out
  replace B_5 := B_5.out
  replace B_7 := B_7.out
  replace B_9 := B_9.out
  replace F_x := F_x.out
  replace F_y := F_y.out
  replace F_z := F_z.out
  go_ret
  exact ⟨rfl, HB⟩
end Go.Proofs.Ythdnaliahdohhaa.H
