/- CompNames: the walk. -/
import Derived.Test.YthdnaliahdohhaaHHalive19
import Derived.Test.YthdnaliahdohhaaHHnamesP
import Derived.Test.YthdnaliahdohhaaHHvars
namespace Go.Proofs.Ythdnaliahdohhaa.H
open Go.RowKit Go.Proofs.YthdnaliahdohhaaW.PrintWords Go.Proofs.YthdnaliahdohhaaW.PrintLast Go.Proofs.YthdnaliahdohhaaW.PrintMore Go.Proofs.Ythdnaliahdohhaa.Map
attribute [local go_sem] max2_int min2_int max_two min_two max_three min_three max_four min_four
set_option linter.unusedVariables false
set_option linter.unusedSimpArgs false
theorem compR_len (x y : S58) : (compR x y).1.l.length ≤ szT x + szT y := by
  unfold compR
  split
  · simp [zCd]
  split
  · simp [zCd]
  split
  · simp [zCd]
  split
  · simp [zCd]
  · have h1 := patL_len (cntHB x y) x.f3 ([], [])
    have h2 := patT_len (cntHB x y) y (headR x y)
    have h3 := szT_eq x
    have h4 : (headR x y).1.length ≤ szL x.f3 := by unfold headR; simpa using h1
    show (patT (cntHB x y) y (headR x y)).1.length ≤ _
    omega
theorem rdI_mem (l : List Int) (k : Nat) (hk : k < l.length) : rd l (k : Int) ∈ l := by
  have : rd l (k : Int) = l[k] := by simp [rd, hk]
  rw [this]; exact List.getElem_mem hk
set_option maxHeartbeats 8000000 in
set_option maxRecDepth 100000 in
theorem cn_1 (l m : List S146) (by_ : Int) (hby : 0 ≤ by_ ∧ by_ < 65536) (A B : Option Addr) (c d : Nat) (w : World) (hC : Kd.C k146 w A l.length l) (hc : l.length ≤ c) (hD : Kd.C k146 w B m.length m) (hd : m.length ≤ d) (hg : 60 < l.length) :
    Calls Try.prog 8 #[.slice A l.length c, .slice B m.length d, .int .u16 by_] w fun e w' => e = .returned (.bool true) ∧ Below w.heap.size w w' := by
  have HG : Aside0 (decide (60 < l.length) = true) := ⟨by simpa using hg⟩
  clear hC hD
  have HB := below_alloc (Below.refl w.heap.size w) (.cells #[.int .u16 by_] 42)
  have B_b := heap_alloc_new w (.cells #[.int .u16 by_] 42)
  go_enter Try.func8, Try.ntmps8
  replace HB := Aside0.mk HB
  replace B_b := Aside0.mk B_b
  go_wp2_with fail
  replace HB := HB.out
  replace B_b := B_b.out
  generalize w.alloc (.cells #[.int .u16 by_] 42) = w0 at *
  refine (alive19_calls _).mono ?_
  rintro e w1 ⟨rfl, hb⟩
  replace HB := below_step HB hb
  replace B_b := blk_below B_b hb
  clear hb
  replace HB := Aside0.mk HB
  replace B_b := Aside0.mk B_b
  go_wp2_with fail
  replace HB := HB.out
  replace B_b := B_b.out
  refine (great_calls l A c _).mono ?_
  rintro e w2 ⟨rfl, hb⟩
  replace HB := below_step HB hb
  replace B_b := blk_below B_b hb
  rw [HG.out]
  clear hb
  replace HB := Aside0.mk HB
  replace B_b := Aside0.mk B_b
  go_wp2_with fail
  replace HB := HB.out
  replace B_b := B_b.out
  go_ret
  exact ⟨rfl, HB⟩
set_option maxHeartbeats 8000000 in
set_option maxRecDepth 100000 in
theorem cn_2 (l m : List S146) (by_ : Int) (hby : 0 ≤ by_ ∧ by_ < 65536) (A B : Option Addr) (c d : Nat) (w : World) (hC : Kd.C k146 w A l.length l) (hc : l.length ≤ c) (hD : Kd.C k146 w B m.length m) (hd : m.length ≤ d) (hg : ¬ 60 < l.length) (hg2 : 60 < m.length) :
    Calls Try.prog 8 #[.slice A l.length c, .slice B m.length d, .int .u16 by_] w fun e w' => e = .returned (.bool true) ∧ Below w.heap.size w w' := by
  have HG : Aside0 (decide (60 < l.length) = false) := ⟨by simpa using hg⟩
  have HG2 : Aside0 (decide (60 < m.length) = true) := ⟨by simpa using hg2⟩
  clear hC hD
  have HB := below_alloc (Below.refl w.heap.size w) (.cells #[.int .u16 by_] 42)
  have B_b := heap_alloc_new w (.cells #[.int .u16 by_] 42)
  go_enter Try.func8, Try.ntmps8
  replace HB := Aside0.mk HB
  replace B_b := Aside0.mk B_b
  go_wp2_with fail
  replace HB := HB.out
  replace B_b := B_b.out
  generalize w.alloc (.cells #[.int .u16 by_] 42) = w0 at *
  refine (alive19_calls _).mono ?_
  rintro e w1 ⟨rfl, hb⟩
  replace HB := below_step HB hb
  replace B_b := blk_below B_b hb
  clear hb
  replace HB := Aside0.mk HB
  replace B_b := Aside0.mk B_b
  go_wp2_with fail
  replace HB := HB.out
  replace B_b := B_b.out
  refine (great_calls l A c _).mono ?_
  rintro e w2 ⟨rfl, hb⟩
  replace HB := below_step HB hb
  replace B_b := blk_below B_b hb
  rw [HG.out]
  clear hb
  replace HB := Aside0.mk HB
  replace B_b := Aside0.mk B_b
  go_wp2_with fail
  replace HB := HB.out
  replace B_b := B_b.out
  refine (great_calls m B d _).mono ?_
  rintro e w3 ⟨rfl, hb⟩
  replace HB := below_step HB hb
  replace B_b := blk_below B_b hb
  rw [HG2.out]
  clear hb
  replace HB := Aside0.mk HB
  replace B_b := Aside0.mk B_b
  go_wp2_with fail
  replace HB := HB.out
  replace B_b := B_b.out
  go_ret
  exact ⟨rfl, HB⟩
set_option maxHeartbeats 8000000 in
set_option maxRecDepth 100000 in
theorem cn_3 (l m : List S146) (by_ : Int) (hby : 0 ≤ by_ ∧ by_ < 65536) (A B : Option Addr) (c d : Nat) (w : World) (hC : Kd.C k146 w A l.length l) (hc : l.length ≤ c) (hD : Kd.C k146 w B m.length m) (hd : m.length ≤ d) (hg : ¬ 60 < l.length) (hg2 : ¬ 60 < m.length) (x y : S58) (hgt : Aside0 (∀ (A : Option Addr) (c : Nat) (w : World), Kd.C k146 w A l.length l → l.length ≤ c → Calls Try.prog 33 #[.slice A l.length c] w (RetT x w))) (hgu : Aside0 (∀ (A : Option Addr) (c : Nat) (w : World), Kd.C k146 w A m.length m → m.length ≤ c → Calls Try.prog 33 #[.slice A m.length c] w (RetT y w))) (hmx : Aside0 (allM x = true)) (hmy : Aside0 (allM y = true)) (hsx : Aside0 (szT x ≤ 500)) (hsy : Aside0 (szT y ≤ 500)) :
    Calls Try.prog 8 #[.slice A l.length c, .slice B m.length d, .int .u16 by_] w fun e w' => e = .returned (.bool true) ∧ Below w.heap.size w w' := by
  have HG : Aside0 (decide (60 < l.length) = false) := ⟨by simpa using hg⟩
  have HG2 : Aside0 (decide (60 < m.length) = false) := ⟨by simpa using hg2⟩
  have HC := Aside0.mk hC
  have HD := Aside0.mk hD
  have Hc := Aside0.mk hc
  have Hd := Aside0.mk hd
  have Hby := Aside0.mk hby
  clear hC hD hc hd hby
  have HB := below_alloc (Below.refl w.heap.size w) (.cells #[.int .u16 by_] 42)
  have B_b := heap_alloc_new w (.cells #[.int .u16 by_] 42)
  go_enter Try.func8, Try.ntmps8
  replace HB := Aside0.mk HB
  replace B_b := Aside0.mk B_b
  go_wp2_with fail
  replace HB := HB.out
  replace B_b := B_b.out
  generalize w.alloc (.cells #[.int .u16 by_] 42) = w0 at *
  refine (alive19_calls _).mono ?_
  rintro e w1 ⟨rfl, hb⟩
  replace HB := below_step HB hb
  replace B_b := blk_below B_b hb
  clear hb
  replace HB := Aside0.mk HB
  replace B_b := Aside0.mk B_b
  go_wp2_with fail
  replace HB := HB.out
  replace B_b := B_b.out
  refine (great_calls l A c _).mono ?_
  rintro e w2 ⟨rfl, hb⟩
  replace HB := below_step HB hb
  replace B_b := blk_below B_b hb
  rw [HG.out]
  clear hb
  replace HB := Aside0.mk HB
  replace B_b := Aside0.mk B_b
  go_wp2_with fail
  replace HB := HB.out
  replace B_b := B_b.out
  refine (great_calls m B d _).mono ?_
  rintro e w3 ⟨rfl, hb⟩
  replace HB := below_step HB hb
  replace B_b := blk_below B_b hb
  rw [HG2.out]
  clear hb
  have hmf : ∀ (fn : Fn) (first cap : Array Value) (w : World), (Instr.makeFunc fn first cap).run Try.prog w = .ok (.func fn first cap) w := fun _ _ _ _ => rfl
  replace HB := Aside0.mk HB
  replace B_b := Aside0.mk B_b
  go_wp2_with fail
  replace HB := HB.out
  replace B_b := B_b.out
  clear hmf
  obtain ⟨gr, hgr_⟩ : ∃ gr, gr = w3.heap.size := ⟨_, rfl⟩
  rw [← hgr_]
  have hal := below_alloc (Below.refl w3.heap.size w3) (.cells #[.func (.func 38) #[] #[.pointer (some ⟨w.heap.size, 0, none⟩), .pointer (some ⟨w3.heap.size, 0, none⟩)]] 65)
  replace HB := below_step HB hal
  replace B_b := blk_below B_b hal
  have B_r := heap_alloc_new w3 (.cells #[.func (.func 38) #[] #[.pointer (some ⟨w.heap.size, 0, none⟩), .pointer (some ⟨w3.heap.size, 0, none⟩)]] 65)
  clear hal
  rw [← hgr_] at HB B_b B_r
  replace hgr_ := Aside0.mk hgr_
  generalize w3.alloc (.cells #[.func (.func 38) #[] #[.pointer (some ⟨w.heap.size, 0, none⟩), .pointer (some ⟨gr, 0, none⟩)]] 65) = w4 at *
  refine (hgt.out A c _ (Kd.C_below HC.out HB) Hc.out).mono ?_
  rintro e w5 ⟨A1, c1, rfl, hc1, F_x, hb⟩
  replace HB := below_step HB hb
  replace B_b := blk_below B_b hb
  replace B_r := blk_below B_r hb
  replace hc1 := Aside0.mk hc1
  have hs5 := Aside0.mk hb.size
  clear hb
  replace HB := Aside0.mk HB
  replace B_b := Aside0.mk B_b
  replace B_r := Aside0.mk B_r
  replace F_x := Aside0.mk F_x
  go_wp2_with fail
  replace HB := HB.out
  replace B_b := B_b.out
  replace B_r := B_r.out
  replace F_x := F_x.out
  refine (hgu.out B d _ (Kd.C_below HD.out HB) Hd.out).mono ?_
  rintro e w6 ⟨A2, c2, rfl, hc2, F_y, hb⟩
  replace HB := below_step HB hb
  replace B_b := blk_below B_b hb
  replace B_r := blk_below B_r hb
  replace F_x := Kd.F_below F_x hb
  replace hc2 := Aside0.mk hc2
  clear hb
  replace HB := Aside0.mk HB
  replace B_b := Aside0.mk B_b
  replace B_r := Aside0.mk B_r
  replace F_x := Aside0.mk F_x
  replace F_y := Aside0.mk F_y
  go_wp2_with fail
  replace HB := HB.out
  replace B_b := B_b.out
  replace B_r := B_r.out
  replace F_x := F_x.out
  replace F_y := F_y.out
  have hal := below_alloc (below_alloc (below_alloc (Below.refl w6.heap.size w6) (.cells #[.int .i64 x.f0, .int .i64 x.f1, .string x.f2, .slice A1 x.f3.length c1] 58)) (.cells #[.int .i64 y.f0, .int .i64 y.f1, .string y.f2, .slice A2 y.f3.length c2] 58)) (.cells #[.int .i64 x.f0, .int .i64 x.f1, .string x.f2, .slice A1 x.f3.length c1, .int .i64 y.f0, .int .i64 y.f1, .string y.f2, .slice A2 y.f3.length c2] 58)
  replace HB := below_step HB hal
  replace B_b := blk_below B_b hal
  replace B_r := blk_below B_r hal
  replace F_x := Kd.F_below F_x hal
  replace F_y := Kd.F_below F_y hal
  have B_8 := blk_alloc (blk_alloc (heap_alloc_new w6 (.cells #[.int .i64 x.f0, .int .i64 x.f1, .string x.f2, .slice A1 x.f3.length c1] 58)) (.cells #[.int .i64 y.f0, .int .i64 y.f1, .string y.f2, .slice A2 y.f3.length c2] 58)) (.cells #[.int .i64 x.f0, .int .i64 x.f1, .string x.f2, .slice A1 x.f3.length c1, .int .i64 y.f0, .int .i64 y.f1, .string y.f2, .slice A2 y.f3.length c2] 58)
  have B_9 := blk_alloc (heap_alloc_new (w6.alloc (.cells #[.int .i64 x.f0, .int .i64 x.f1, .string x.f2, .slice A1 x.f3.length c1] 58)) (.cells #[.int .i64 y.f0, .int .i64 y.f1, .string y.f2, .slice A2 y.f3.length c2] 58)) (.cells #[.int .i64 x.f0, .int .i64 x.f1, .string x.f2, .slice A1 x.f3.length c1, .int .i64 y.f0, .int .i64 y.f1, .string y.f2, .slice A2 y.f3.length c2] 58)
  rw [show (w6.alloc (.cells #[.int .i64 x.f0, .int .i64 x.f1, .string x.f2, .slice A1 x.f3.length c1] 58)).heap.size = w6.heap.size + 1 by simp] at B_9
  have B_L := heap_alloc_new ((w6.alloc (.cells #[.int .i64 x.f0, .int .i64 x.f1, .string x.f2, .slice A1 x.f3.length c1] 58)).alloc (.cells #[.int .i64 y.f0, .int .i64 y.f1, .string y.f2, .slice A2 y.f3.length c2] 58)) (.cells #[.int .i64 x.f0, .int .i64 x.f1, .string x.f2, .slice A1 x.f3.length c1, .int .i64 y.f0, .int .i64 y.f1, .string y.f2, .slice A2 y.f3.length c2] 58)
  rw [show ((w6.alloc (.cells #[.int .i64 x.f0, .int .i64 x.f1, .string x.f2, .slice A1 x.f3.length c1] 58)).alloc (.cells #[.int .i64 y.f0, .int .i64 y.f1, .string y.f2, .slice A2 y.f3.length c2] 58)).heap.size = w6.heap.size + 2 by simp] at B_L
  clear hal
  generalize (((w6.alloc (.cells #[.int .i64 x.f0, .int .i64 x.f1, .string x.f2, .slice A1 x.f3.length c1] 58)).alloc (.cells #[.int .i64 y.f0, .int .i64 y.f1, .string y.f2, .slice A2 y.f3.length c2] 58)).alloc (.cells #[.int .i64 x.f0, .int .i64 x.f1, .string x.f2, .slice A1 x.f3.length c1, .int .i64 y.f0, .int .i64 y.f1, .string y.f2, .slice A2 y.f3.length c2] 58)) = w7 at *
  have F_2 := lit2 (ok := fun k => w4.heap.size ≤ k) B_L hc1.out (Kd.F_mono F_x (fun k hk => hk)) hc2.out (Kd.F_mono F_y (fun k hk => by have := hs5.out; omega))
  replace F_2 : Kd.F k58 _ _ (some ⟨w6.heap.size + 2, 0, none⟩) (bothT x y).f3.length (bothT x y).f3 := F_2
  clear B_L
  refine (f19_calls _ _ _ _ _).mono ?_
  rintro e w8 ⟨rfl, hb⟩
  replace HB := below_step HB hb
  replace B_b := blk_below B_b hb
  replace B_r := blk_below B_r hb
  replace B_8 := blk_below B_8 hb
  replace B_9 := blk_below B_9 hb
  replace F_x := Kd.F_below F_x hb
  replace F_y := Kd.F_below F_y hb
  replace F_2 := Kd.F_below F_2 hb
  clear hb
  replace HB := Aside0.mk HB
  replace B_b := Aside0.mk B_b
  replace B_r := Aside0.mk B_r
  replace B_8 := Aside0.mk B_8
  replace B_9 := Aside0.mk B_9
  replace F_x := Aside0.mk F_x
  replace F_y := Aside0.mk F_y
  replace F_2 := Aside0.mk F_2
  go_wp2_with fail
  replace HB := HB.out
  replace B_b := B_b.out
  replace B_r := B_r.out
  replace B_8 := B_8.out
  replace B_9 := B_9.out
  replace F_x := F_x.out
  replace F_y := F_y.out
  replace F_2 := F_2.out
  refine (vars_calls (bothT x y) (by have := hsx.out; have := hsy.out; show szT x + (szT y + 0) + 1 ≤ 1000000; omega) _ 2 _ (Kd.F_now F_2) (Nat.le_refl 2)).mono ?_
  rintro e w9 ⟨AV, cV, rfl, hV, hb⟩
  replace HB := below_step HB hb
  replace B_b := blk_below B_b hb
  replace B_r := blk_below B_r hb
  replace B_8 := blk_below B_8 hb
  replace B_9 := blk_below B_9 hb
  clear F_2
  replace F_x := Kd.F_below F_x hb
  replace F_y := Kd.F_below F_y hb
  clear hb
  obtain ⟨vs, hvs⟩ : ∃ vs, vs = (wiT (bothT x y) []).2.map (·.1) := ⟨_, rfl⟩
  rw [← hvs] at hV
  rw [← hvs]
  have hlv : vs.length ≤ 9223372036854775807 := hV.2.1
  replace hV := Aside0.mk hV
  replace hvs := Aside0.mk hvs
  replace HB := Aside0.mk HB
  replace B_b := Aside0.mk B_b
  replace B_r := Aside0.mk B_r
  replace B_8 := Aside0.mk B_8
  replace B_9 := Aside0.mk B_9
  replace F_x := Aside0.mk F_x
  replace F_y := Aside0.mk F_y
  go_wp2_with fail
  replace HB := HB.out
  replace B_b := B_b.out
  replace B_r := B_r.out
  replace B_8 := B_8.out
  replace B_9 := B_9.out
  replace F_x := F_x.out
  replace F_y := F_y.out
  replace HB := Aside0.mk HB
  replace B_b := Aside0.mk B_b
  replace B_r := Aside0.mk B_r
  replace B_8 := Aside0.mk B_8
  replace B_9 := Aside0.mk B_9
  replace F_x := Aside0.mk F_x
  replace F_y := Aside0.mk F_y
  go_loopw [35, 11] (fun i _ wr => wr = w9 ∧ ∃ k : Nat, i = .int .i64 k ∧ Aside0 (k ≤ vs.length) ∧ Aside0 (∀ j : Nat, j < k → rd vs (j : Int) < 1099511627776)) (fun i _ _ => vs.length - (intOf i).toNat)
  case atStart => exact ⟨rfl, 0, rfl, ⟨by omega⟩, ⟨by omega⟩⟩
  case round =>
    obtain ⟨rfl, k, rfl, hk, hj⟩ := hrel
    by_cases hlt : k < vs.length
    · have hlt2 : decide ((k : Int) < (vs.length : Int)) = true := decide_eq_true (by omega)
      have hlt3 : decide (k < vs.length) = true := decide_eq_true hlt
      obtain ⟨ad, ead, q0⟩ := Kd.at_int hV.out (k : Int) (by omega) (by omega)
      subst ead
      simp only [Int.toNat_natCast] at q0
      have Hlt := Aside0.mk hlt
      by_cases hbig : rd vs (k : Int) < 1099511627776
      · have hb2 : decide (1099511627776 ≤ rd vs (k : Int)) = false := decide_eq_false (by omega)
        have Hbig := Aside0.mk hbig
        clear hbig
        go_wp2_with fail
        go_roundw
        case rel => exact ⟨by first | rfl | trivial, k + 1, by go_num, ⟨Hlt.out⟩, ⟨fun j h => by rcases Nat.lt_or_ge j k with h1 | h1; exact hj.out j h1; (obtain rfl : j = k := by omega); exact Hbig.out⟩⟩
        case measure => have := Hlt.out; simp [intOf]; omega
      · have hb2 : decide (1099511627776 ≤ rd vs (k : Int)) = true := decide_eq_true (by omega)
        have hb3 : 1099511627776 ≤ rd vs (k : Int) := by omega
        clear hbig
        go_wp2_with fail
        go_ret
        exact ⟨rfl, HB.out⟩
    · have hlt2 : decide ((k : Int) < (vs.length : Int)) = false := decide_eq_false (by omega)
      have hlt3 : decide (k < vs.length) = false := decide_eq_false hlt
      obtain rfl : k = vs.length := by have := hk.out; omega
      have hEq : Aside0 (compR (renT by_ x) (renT by_ y) = compR x y) := ⟨names_pure Hby.out hmx.out hmy.out (fun n hn => by
        have hn2 : n ∈ vs := by rw [hvs.out]; exact hn
        obtain ⟨j, hj1, hj2⟩ := List.getElem_of_mem hn2
        have := hj.out j hj1
        rw [← hj2]
        simpa [rd, hj1] using this)⟩
      replace HB := HB.out
      replace B_b := B_b.out
      replace B_r := B_r.out
      replace B_8 := B_8.out
      replace B_9 := B_9.out
      replace F_x := F_x.out
      replace F_y := F_y.out
      have e80 : wr.cell? ⟨w6.heap.size, 0, none⟩ = some (.int .i64 x.f0) := (blk_cell B_8 0).trans rfl
      have e90 : wr.cell? ⟨(w6.heap.size + 1), 0, none⟩ = some (.int .i64 y.f0) := (blk_cell B_9 0).trans rfl
      have e81 : wr.cell? ⟨w6.heap.size, 1, none⟩ = some (.int .i64 x.f1) := (blk_cell B_8 1).trans rfl
      have e91 : wr.cell? ⟨(w6.heap.size + 1), 1, none⟩ = some (.int .i64 y.f1) := (blk_cell B_9 1).trans rfl
      have e82 : wr.cell? ⟨w6.heap.size, 2, none⟩ = some (.string x.f2) := (blk_cell B_8 2).trans rfl
      have e92 : wr.cell? ⟨(w6.heap.size + 1), 2, none⟩ = some (.string y.f2) := (blk_cell B_9 2).trans rfl
      have e83 : wr.cell? ⟨w6.heap.size, 3, none⟩ = some (.slice A1 x.f3.length c1) := (blk_cell B_8 3).trans rfl
      have e93 : wr.cell? ⟨(w6.heap.size + 1), 3, none⟩ = some (.slice A2 y.f3.length c2) := (blk_cell B_9 3).trans rfl
      replace HB := Aside0.mk HB
      replace B_b := Aside0.mk B_b
      replace B_r := Aside0.mk B_r
      replace B_8 := Aside0.mk B_8
      replace B_9 := Aside0.mk B_9
      replace F_x := Aside0.mk F_x
      replace F_y := Aside0.mk F_y
      go_wp2_with fail
      replace HB := HB.out
      replace B_b := B_b.out
      replace B_r := B_r.out
      replace B_8 := B_8.out
      replace B_9 := B_9.out
      replace F_x := F_x.out
      replace F_y := F_y.out
      clear e80 e81 e82 e83 e90 e91 e92 e93
      have HRc : Aside0 (∃ r, r = compR x y) := ⟨_, rfl⟩
      obtain ⟨r, hr_⟩ := HRc.out
      clear HRc
      refine (compile_calls x y (by have := hsx.out; omega) (by have := hsy.out; omega) A1 A2 c1 c2 _ (Kd.F_now F_x) (Kd.F_now F_y)).mono ?_
      rw [← hr_]
      rintro e w10 ⟨A3, c3, rfl, hc3, F_c, hb⟩
      have Hr_ := Aside0.mk (hEq.out.trans hr_.symm)
      have Hr2 := Hr_
      clear hr_
      replace HB := below_step HB hb
      replace B_b := blk_below B_b hb
      replace B_r := blk_below B_r hb
      replace B_8 := blk_below B_8 hb
      replace B_9 := blk_below B_9 hb
      replace F_x := Kd.F_below F_x hb
      replace F_y := Kd.F_below F_y hb
      clear hb
      replace hc3 := Aside0.mk hc3
      replace HB := Aside0.mk HB
      replace B_b := Aside0.mk B_b
      replace B_r := Aside0.mk B_r
      replace B_8 := Aside0.mk B_8
      replace B_9 := Aside0.mk B_9
      replace F_x := Aside0.mk F_x
      replace F_y := Aside0.mk F_y
      replace F_c := Aside0.mk F_c
      go_wp2_with fail
      replace HB := HB.out
      replace B_b := B_b.out
      replace B_r := B_r.out
      replace B_8 := B_8.out
      replace B_9 := B_9.out
      replace F_x := F_x.out
      replace F_y := F_y.out
      replace F_c := F_c.out
      have hrl : Aside0 (r.1.l.length ≤ 1000000) := ⟨by rw [← Hr2.out, hEq.out]; have := compR_len x y; have := hsx.out; have := hsy.out; omega⟩
      have hal := below_alloc (Below.refl w10.heap.size w10) (.cells #[.string r.1.nm, .int .i64 r.1.ar, .int .i64 r.1.sl, .int .i64 r.1.bd, .slice A3 r.1.l.length c3] 28)
      replace HB := below_step HB hal
      replace B_b := blk_below B_b hal
      replace B_r := blk_below B_r hal
      replace B_8 := blk_below B_8 hal
      replace B_9 := blk_below B_9 hal
      replace F_x := Kd.F_below F_x hal
      replace F_y := Kd.F_below F_y hal
      replace F_c := Kd.F_below F_c hal
      have B_c := heap_alloc_new w10 (.cells #[.string r.1.nm, .int .i64 r.1.ar, .int .i64 r.1.sl, .int .i64 r.1.bd, .slice A3 r.1.l.length c3] 28)
      clear hal
      generalize (w10.alloc (.cells #[.string r.1.nm, .int .i64 r.1.ar, .int .i64 r.1.sl, .int .i64 r.1.bd, .slice A3 r.1.l.length c3] 28)) = y0 at *
      replace F_c := Kd.F_mono (Kd.F_bound F_c) (ok' := fun k => k < y0.heap.size) (fun k hk => hk.2)
      have hl_c : Aside0 (w10.heap.size < y0.heap.size) := ⟨blk_lt B_c⟩
      have hl_w : Aside0 (w.heap.size ≤ y0.heap.size) := ⟨HB.size⟩
      refine start_ (n := 13) (S := fun w' => w'.cell? ⟨gr, 0, none⟩ = some (.func (.func 38) #[] #[.pointer (some ⟨w.heap.size, 0, none⟩), .pointer (some ⟨gr, 0, none⟩)]) ∧ w'.cell? ⟨w6.heap.size, 0, none⟩ = some (.int .i64 x.f0) ∧ w'.cell? ⟨w6.heap.size, 1, none⟩ = some (.int .i64 x.f1) ∧ w'.cell? ⟨w6.heap.size, 2, none⟩ = some (.string x.f2) ∧ w'.cell? ⟨w6.heap.size, 3, none⟩ = some (.slice A1 x.f3.length c1) ∧ w'.cell? ⟨(w6.heap.size + 1), 0, none⟩ = some (.int .i64 y.f0) ∧ w'.cell? ⟨(w6.heap.size + 1), 1, none⟩ = some (.int .i64 y.f1) ∧ w'.cell? ⟨(w6.heap.size + 1), 2, none⟩ = some (.string y.f2) ∧ w'.cell? ⟨(w6.heap.size + 1), 3, none⟩ = some (.slice A2 y.f3.length c2)) (ds := [11]) #[false, false, false, false, false, false, false, false, false, false, false, false, false] (by kernel_rfl) rfl rfl ⟨(blk_cell (blk_drew B_r) 0).trans rfl, (blk_cell (blk_drew B_8) 0).trans rfl, (blk_cell (blk_drew B_8) 1).trans rfl, (blk_cell (blk_drew B_8) 2).trans rfl, (blk_cell (blk_drew B_8) 3).trans rfl, (blk_cell (blk_drew B_9) 0).trans rfl, (blk_cell (blk_drew B_9) 1).trans rfl, (blk_cell (blk_drew B_9) 2).trans rfl, (blk_cell (blk_drew B_9) 3).trans rfl⟩ (fun hHeld => ?_)
      replace B_r := blk_drew B_r
      replace B_8 := blk_drew B_8
      replace B_9 := blk_drew B_9
      replace B_b := blk_drew B_b
      replace B_c := blk_drew B_c
      replace HB := HB.drew
      replace F_x := Kd.F_drew F_x
      replace F_y := Kd.F_drew F_y
      replace F_c := Kd.F_drew F_c
      have hl_c2 : Aside0 (w10.heap.size < y0.drew.heap.size) := hl_c
      have hl_w2 : Aside0 (w.heap.size ≤ y0.drew.heap.size) := hl_w
      replace F_c : Kd.F k39 y0.drew (fun k => k < y0.drew.heap.size) _ _ _ := F_c
      clear hl_c hl_w
      generalize y0.drew = z0 at *
      have hl_c := hl_c2
      have hl_w := hl_w2
      have HZ := Below.refl z0.heap.size z0
      refine take_ (i := 0) (N := some 49) (v := ?_) (a' := ?_) #[true, false, false, false, false, false, false, false, false, false, false, false, false] rfl rfl (by kernel_rfl) (fun _ _ _ h => h) (Or.inl ⟨by rfl, ?_⟩) hHeld ?_ ?_
      rotate_left
      · rintro w' ⟨s0, s1, s2, s3, s4, s5, s6, s7, s8⟩
        go_simp
        with_reducible rfl
      rotate_left
      · simp only [Act.put, List.setIfInBounds_toArray, List.set_cons_zero, List.set_cons_succ, i64_w, i32_w]
        rfl
      refine take_ (i := 1) (N := some 50) (v := ?_) (a' := ?_) #[true, true, false, false, false, false, false, false, false, false, false, false, false] rfl rfl (by kernel_rfl) (fun _ _ _ h => h) (Or.inl ⟨by rfl, ?_⟩) hHeld ?_ ?_
      rotate_left
      · rintro w' ⟨s0, s1, s2, s3, s4, s5, s6, s7, s8⟩
        go_simp
        with_reducible rfl
      rotate_left
      · simp only [Act.put, List.setIfInBounds_toArray, List.set_cons_zero, List.set_cons_succ, i64_w, i32_w]
        rfl
      refine take_ (i := 3) (N := some 52) (v := ?_) (a' := ?_) #[true, true, false, true, false, false, false, false, false, false, false, false, false] rfl rfl (by kernel_rfl) (fun _ _ _ h => h) (Or.inl ⟨by rfl, ?_⟩) hHeld ?_ ?_
      rotate_left
      · rintro w' ⟨s0, s1, s2, s3, s4, s5, s6, s7, s8⟩
        go_simp
        with_reducible rfl
      rotate_left
      · simp only [Act.put, List.setIfInBounds_toArray, List.set_cons_zero, List.set_cons_succ, i64_w, i32_w]
        rfl
      refine take_ (i := 4) (N := some 53) (v := ?_) (a' := ?_) #[true, true, false, true, true, false, false, false, false, false, false, false, false] rfl rfl (by kernel_rfl) (fun _ _ _ h => h) (Or.inl ⟨by rfl, ?_⟩) hHeld ?_ ?_
      rotate_left
      · rintro w' ⟨s0, s1, s2, s3, s4, s5, s6, s7, s8⟩
        go_simp
        with_reducible rfl
      rotate_left
      · simp only [Act.put, List.setIfInBounds_toArray, List.set_cons_zero, List.set_cons_succ, i64_w, i32_w]
        rfl
      refine two_ (i := 2) (j := 10) (Ni := some 51) (Nj := some 14) #[true, true, true, true, true, false, false, false, false, false, false, false, false] #[true, true, false, true, true, false, false, false, false, false, true, false, false] rfl rfl rfl rfl (by kernel_rfl) (by decide) (by decide) (fun K hK => ?_) (fun K hK => ?_)
      · refine goesF_ Try.func38 (by kernel_rfl) rfl #[.agg #[.int .i64 x.f0, .int .i64 x.f1, .string x.f2, .slice A1 x.f3.length c1], .pointer (some ⟨w.heap.size, 0, none⟩), .pointer (some ⟨gr, 0, none⟩)] (.tmp 49) #[] #[.pointer (some ⟨w.heap.size, 0, none⟩), .pointer (some ⟨gr, 0, none⟩)] (by rfl) rfl rfl rfl (by (try simp only [List.map_toArray, List.map_cons, List.map_nil]); first | done | rfl) ?_
        refine (rename_calls 1000 (by omega) by_ _ gr x (by have := hsx.out; omega) A1 c1 _ (Kd.F_now F_x) hc1.out B_b B_r).mono ?_
        rintro e z1 ⟨Ap, cp, rfl, hcp, F_p, hb⟩
        refine ⟨_, rfl, ?_⟩
        replace HB := below_step HB hb
        replace B_r := blk_below B_r hb
        replace B_8 := blk_below B_8 hb
        replace B_9 := blk_below B_9 hb
        replace B_b := blk_below B_b hb
        replace B_c := blk_below B_c hb
        replace F_x := Kd.F_below F_x hb
        replace F_y := Kd.F_below F_y hb
        replace F_c := Kd.F_below F_c hb
        replace HZ := below_step HZ hb
        clear hb F_x
        replace hcp := Aside0.mk hcp
        refine hK.out _ _ ⟨(blk_cell B_r 0).trans rfl, (blk_cell B_8 0).trans rfl, (blk_cell B_8 1).trans rfl, (blk_cell B_8 2).trans rfl, (blk_cell B_8 3).trans rfl, (blk_cell B_9 0).trans rfl, (blk_cell B_9 1).trans rfl, (blk_cell B_9 2).trans rfl, (blk_cell B_9 3).trans rfl⟩ (fun hHeld => ?_)
        clear hK K
        refine norm_ (a' := ?_) ?_ ?_
        rotate_left
        · show Act.put _ (some 51) _ = _
          simp only [Act.put, List.setIfInBounds_toArray, List.set_cons_zero, List.set_cons_succ, i64_w, i32_w]
          rfl
        refine two_ (i := 5) (j := 10) (Ni := some 54) (Nj := some 14) #[true, true, true, true, true, true, false, false, false, false, false, false, false] #[true, true, true, true, true, false, false, false, false, false, true, false, false] rfl rfl rfl rfl (by kernel_rfl) (by decide) (by decide) (fun K hK => ?_) (fun K hK => ?_)
        · refine goesF_ Try.func38 (by kernel_rfl) rfl #[.agg #[.int .i64 y.f0, .int .i64 y.f1, .string y.f2, .slice A2 y.f3.length c2], .pointer (some ⟨w.heap.size, 0, none⟩), .pointer (some ⟨gr, 0, none⟩)] (.tmp 52) #[] #[.pointer (some ⟨w.heap.size, 0, none⟩), .pointer (some ⟨gr, 0, none⟩)] (by rfl) rfl rfl rfl (by (try simp only [List.map_toArray, List.map_cons, List.map_nil]); first | done | rfl) ?_
          refine (rename_calls 1000 (by omega) by_ _ gr y (by have := hsy.out; omega) A2 c2 _ (Kd.F_now F_y) hc2.out B_b B_r).mono ?_
          rintro e z2 ⟨Aq, cq, rfl, hcq, F_q, hb⟩
          refine ⟨_, rfl, ?_⟩
          replace HB := below_step HB hb
          replace B_r := blk_below B_r hb
          replace B_8 := blk_below B_8 hb
          replace B_9 := blk_below B_9 hb
          replace B_b := blk_below B_b hb
          replace B_c := blk_below B_c hb
          replace F_y := Kd.F_below F_y hb
          replace F_c := Kd.F_below F_c hb
          replace F_p := Kd.F_below F_p hb
          replace HZ := below_step HZ hb
          clear hb F_y
          replace hcq := Aside0.mk hcq
          refine hK.out _ _ ⟨(blk_cell B_r 0).trans rfl, (blk_cell B_8 0).trans rfl, (blk_cell B_8 1).trans rfl, (blk_cell B_8 2).trans rfl, (blk_cell B_8 3).trans rfl, (blk_cell B_9 0).trans rfl, (blk_cell B_9 1).trans rfl, (blk_cell B_9 2).trans rfl, (blk_cell B_9 3).trans rfl⟩ (fun hHeld => ?_)
          clear hK K
          refine norm_ (a' := ?_) ?_ ?_
          rotate_left
          · show Act.put _ (some 54) _ = _
            simp only [Act.put, List.setIfInBounds_toArray, List.set_cons_zero, List.set_cons_succ, i64_w, i32_w]
            rfl
          refine two_ (i := 6) (j := 10) (Ni := some 55) (Nj := some 14) #[true, true, true, true, true, true, true, false, false, false, false, false, false] #[true, true, true, true, true, true, false, false, false, false, true, false, false] rfl rfl rfl rfl (by kernel_rfl) (by decide) (by decide) (fun K hK => ?_) (fun K hK => ?_)
          · refine goes_ Try.func41 (by kernel_rfl) rfl #[.agg #[.int .i64 (renT by_ x).f0, .int .i64 (renT by_ x).f1, .string (renT by_ x).f2, .slice Ap (renT by_ x).f3.length cp], .agg #[.int .i64 (renT by_ y).f0, .int .i64 (renT by_ y).f1, .string (renT by_ y).f2, .slice Aq (renT by_ y).f3.length cq]] (by rfl) rfl rfl (by (try simp only [List.map_toArray, List.map_cons, List.map_nil]); first | done | rfl) ?_
            refine (compile_calls (renT by_ x) (renT by_ y) (by rw [szT_ren]; have := hsx.out; omega) (by rw [szT_ren]; have := hsy.out; omega) Ap Aq cp cq _ (Kd.F_now F_p) (Kd.F_now F_q)).mono ?_
            rw [Hr_.out]
            rintro e z3 ⟨A4, c4, rfl, hc4, F_d, hb⟩
            refine ⟨_, rfl, ?_⟩
            replace HB := below_step HB hb
            replace B_r := blk_below B_r hb
            replace B_8 := blk_below B_8 hb
            replace B_9 := blk_below B_9 hb
            replace B_b := blk_below B_b hb
            replace B_c := blk_below B_c hb
            replace F_c := Kd.F_below F_c hb
            replace F_p := Kd.F_below F_p hb
            replace F_q := Kd.F_below F_q hb
            replace HZ := below_step HZ hb
            clear hb F_p F_q
            replace hc4 := Aside0.mk hc4
            refine hK.out _ _ ⟨(blk_cell B_r 0).trans rfl, (blk_cell B_8 0).trans rfl, (blk_cell B_8 1).trans rfl, (blk_cell B_8 2).trans rfl, (blk_cell B_8 3).trans rfl, (blk_cell B_9 0).trans rfl, (blk_cell B_9 1).trans rfl, (blk_cell B_9 2).trans rfl, (blk_cell B_9 3).trans rfl⟩ (fun hHeld => ?_)
            clear hK K
            refine norm_ (a' := ?_) ?_ ?_
            rotate_left
            · show Act.put _ (some 55) _ = _
              simp only [Act.put, List.setIfInBounds_toArray, List.set_cons_zero, List.set_cons_succ, i64_w, i32_w]
              rfl
            refine pure_ (i := 7) (N := some 48) (v := ?_) (a' := ?_) #[true, true, true, true, true, true, true, true, false, false, false, false, false] rfl rfl (by kernel_rfl) (fun _ _ _ h => h) (Or.inl ⟨by rfl, ?_⟩) ?_ ?_
            rotate_left
            · intro w'
              go_simp
              with_reducible rfl
            rotate_left
            · simp only [Act.put, List.setIfInBounds_toArray, List.set_cons_zero, List.set_cons_succ, i64_w, i32_w]
              rfl
            refine pure_ (i := 8) (N := some 56) (v := ?_) (a' := ?_) #[true, true, true, true, true, true, true, true, true, false, false, false, false] rfl rfl (by kernel_rfl) (fun _ _ _ h => h) (Or.inl ⟨by rfl, ?_⟩) ?_ ?_
            rotate_left
            · intro w'
              go_simp
              with_reducible rfl
            rotate_left
            · simp only [Act.put, List.setIfInBounds_toArray, List.set_cons_zero, List.set_cons_succ, i64_w, i32_w]
              rfl
            refine pure_ (i := 9) (N := some 57) (v := ?_) (a' := ?_) #[true, true, true, true, true, true, true, true, true, true, false, false, false] rfl rfl (by kernel_rfl) (fun _ _ _ h => h) (Or.inl ⟨by rfl, ?_⟩) ?_ ?_
            rotate_left
            · intro w'
              go_simp
              with_reducible rfl
            rotate_left
            · simp only [Act.put, List.setIfInBounds_toArray, List.set_cons_zero, List.set_cons_succ, i64_w, i32_w]
              rfl
            refine one_ (i := 10) (N := some 14) #[true, true, true, true, true, true, true, true, true, true, true, false, false] rfl rfl (by kernel_rfl) (by decide) (fun K hK => ?_)
            refine value_ (w1 := ?_) (v := ?_) (by rfl) rfl ?_ ?_
            rotate_left 2
            · go_simp
              constructor
              · rfl
              · rfl
            have hb := below_alloc (Below.refl z3.heap.size z3) (.cells #[.string ⟨#[]⟩, .int .i64 0, .int .i64 0, .int .i64 0, .slice none 0 0] 28)
            have B_n0 := heap_alloc_new z3 (.cells #[.string ⟨#[]⟩, .int .i64 0, .int .i64 0, .int .i64 0, .slice none 0 0] 28)
            have hgy0 := HZ.size
            replace F_d := Kd.F_mono (Kd.F_bound F_d) (ok' := fun k => k ≠ z3.heap.size) (fun k hk => by have := hk.2; omega)
            replace HB := below_step HB hb
            replace B_r := blk_below B_r hb
            replace B_8 := blk_below B_8 hb
            replace B_9 := blk_below B_9 hb
            replace B_b := blk_below B_b hb
            replace B_c := blk_below B_c hb
            replace F_c := Kd.F_below F_c hb
            replace F_d := Kd.F_below F_d hb
            replace HZ := below_step HZ hb
            clear hb
            have B_n := B_n0
            clear B_n0
            refine hK.out _ _ ⟨(blk_cell B_r 0).trans rfl, (blk_cell B_8 0).trans rfl, (blk_cell B_8 1).trans rfl, (blk_cell B_8 2).trans rfl, (blk_cell B_8 3).trans rfl, (blk_cell B_9 0).trans rfl, (blk_cell B_9 1).trans rfl, (blk_cell B_9 2).trans rfl, (blk_cell B_9 3).trans rfl⟩ (fun hHeld => ?_)
            clear hK K
            refine norm_ (a' := ?_) ?_ ?_
            rotate_left
            · show Act.put _ (some 14) _ = _
              simp only [Act.put, List.setIfInBounds_toArray, List.set_cons_zero, List.set_cons_succ, i64_w, i32_w]
              rfl
            obtain ⟨gn, hgn_⟩ : ∃ gn, gn = z3.heap.size := ⟨_, rfl⟩
            have hgy : Aside0 (z0.heap.size ≤ gn) := ⟨by omega⟩
            rw [← hgn_] at B_n F_d ⊢
            clear hgn_ hgy0
            generalize z3.alloc (.cells #[.string ⟨#[]⟩, .int .i64 0, .int .i64 0, .int .i64 0, .slice none 0 0] 28) = z4 at *
            refine last_ (i := 11) (N := none) #[true, true, true, true, true, true, true, true, true, true, true, true, false] rfl rfl (by kernel_rfl) (by decide) (fun K hK => ?_)
            refine skip_ (by rfl) rfl (w1 := ?_) ?_ ?_
            rotate_left
            · have z0 := blk_frozen B_n 0
              have z1 := blk_frozen B_n 1
              have z2 := blk_frozen B_n 2
              have z3 := blk_frozen B_n 3
              have z4 := blk_frozen B_n 4
              have y0 := (blk_cell B_n 0).trans rfl
              have y1 := (blk_cell B_n 1).trans rfl
              have y2 := (blk_cell B_n 2).trans rfl
              have y3 := (blk_cell B_n 3).trans rfl
              have y4 := (blk_cell B_n 4).trans rfl
              go_simp
              rfl
            refine hK.out _ _ ?_
            clear hK K
            refine pure_ (i := 12) (N := some 15) (v := ?_) (a' := ?_) #[true, true, true, true, true, true, true, true, true, true, true, true, true] rfl rfl (by kernel_rfl) (fun _ _ _ h => h) (Or.inl ⟨by rfl, ?_⟩) ?_ ?_
            rotate_left
            · intro w'
              go_simp
              with_reducible rfl
            rotate_left
            · simp only [Act.put, List.setIfInBounds_toArray, List.set_cons_zero, List.set_cons_succ, i64_w, i32_w]
              rfl
            refine done_ (by kernel_rfl) ?_
            have sm := set5 z4 gn (.string r.1.nm) (.int .i64 r.1.ar) (.int .i64 r.1.sl) (.int .i64 r.1.bd) (.slice A4 r.1.l.length c4)
            have sb := blk5 (.string r.1.nm) (.int .i64 r.1.ar) (.int .i64 r.1.sl) (.int .i64 r.1.bd) (.slice A4 r.1.l.length c4) B_n
            replace B_c := sm.blk B_c (by have := hl_c.out; have := hgy.out; omega)
            replace HB := sm.under HB (Nat.le_refl _) (fun k hk => by have := hl_w.out; have := hgy.out; omega)
            replace F_c := Kd.F_step F_c (fun q hq hl => sm.block q hl (by have := hq; have := hgy.out; omega))
            replace F_d := Kd.F_step F_d (fun q hq hl => sm.block q hl hq)
            clear sm B_n B_r B_8 B_9 B_b HZ hHeld
            generalize (((((z4.setCell ⟨gn, 0, none⟩ (.string r.1.nm)).setCell ⟨gn, 1, none⟩ (.int .i64 r.1.ar)).setCell ⟨gn, 2, none⟩ (.int .i64 r.1.sl)).setCell ⟨gn, 3, none⟩ (.int .i64 r.1.bd)).setCell ⟨gn, 4, none⟩ (.slice A4 r.1.l.length c4)) = y1 at *
            replace sb := Aside0.mk sb
            replace B_c := Aside0.mk B_c
            replace HB := Aside0.mk HB
            replace F_c := Aside0.mk F_c
            replace F_d := Aside0.mk F_d
            go_wp2_with fail
            replace sb := sb.out
            replace B_c := B_c.out
            replace HB := HB.out
            replace F_c := F_c.out
            replace F_d := F_d.out
            have B_n := sb
            clear sb
            refine start_ (n := 11) (S := fun w' => w'.cell? ⟨w10.heap.size, 0, none⟩ = some (.string r.1.nm) ∧ w'.cell? ⟨w10.heap.size, 1, none⟩ = some (.int .i64 r.1.ar) ∧ w'.cell? ⟨w10.heap.size, 2, none⟩ = some (.int .i64 r.1.sl) ∧ w'.cell? ⟨w10.heap.size, 3, none⟩ = some (.int .i64 r.1.bd) ∧ w'.cell? ⟨w10.heap.size, 4, none⟩ = some (.slice A3 r.1.l.length c3) ∧ w'.cell? ⟨gn, 0, none⟩ = some (.string r.1.nm) ∧ w'.cell? ⟨gn, 1, none⟩ = some (.int .i64 r.1.ar) ∧ w'.cell? ⟨gn, 2, none⟩ = some (.int .i64 r.1.sl) ∧ w'.cell? ⟨gn, 3, none⟩ = some (.int .i64 r.1.bd) ∧ w'.cell? ⟨gn, 4, none⟩ = some (.slice A4 r.1.l.length c4)) (ds := []) #[false, false, false, false, false, false, false, false, false, false, false] (by kernel_rfl) rfl rfl ⟨(blk_cell (blk_drew B_c) 0).trans rfl, (blk_cell (blk_drew B_c) 1).trans rfl, (blk_cell (blk_drew B_c) 2).trans rfl, (blk_cell (blk_drew B_c) 3).trans rfl, (blk_cell (blk_drew B_c) 4).trans rfl, (blk_cell (blk_drew B_n) 0).trans rfl, (blk_cell (blk_drew B_n) 1).trans rfl, (blk_cell (blk_drew B_n) 2).trans rfl, (blk_cell (blk_drew B_n) 3).trans rfl, (blk_cell (blk_drew B_n) 4).trans rfl⟩ (fun hHeld => ?_)
            replace B_c := blk_drew B_c
            replace B_n := blk_drew B_n
            replace HB := HB.drew
            replace F_c := Kd.F_drew F_c
            replace F_d := Kd.F_drew F_d
            generalize y1.drew = v0 at *
            refine pure_ (i := 0) (N := some 58) (v := ?_) (a' := ?_) #[true, false, false, false, false, false, false, false, false, false, false] rfl rfl (by kernel_rfl) (fun _ _ _ h => h) (Or.inl ⟨by rfl, ?_⟩) ?_ ?_
            rotate_left
            · intro w'
              go_simp
              with_reducible rfl
            rotate_left
            · simp only [Act.put, List.setIfInBounds_toArray, List.set_cons_zero, List.set_cons_succ, i64_w, i32_w]
              rfl
            refine pure_ (i := 1) (N := some 59) (v := ?_) (a' := ?_) #[true, true, false, false, false, false, false, false, false, false, false] rfl rfl (by kernel_rfl) (fun _ _ _ h => h) (Or.inl ⟨by rfl, ?_⟩) ?_ ?_
            rotate_left
            · intro w'
              go_simp
              with_reducible rfl
            rotate_left
            · simp only [Act.put, List.setIfInBounds_toArray, List.set_cons_zero, List.set_cons_succ, i64_w, i32_w]
              rfl
            refine pure_ (i := 2) (N := some 60) (v := ?_) (a' := ?_) #[true, true, true, false, false, false, false, false, false, false, false] rfl rfl (by kernel_rfl) (fun _ _ _ h => h) (Or.inl ⟨by rfl, ?_⟩) ?_ ?_
            rotate_left
            · intro w'
              go_simp
              with_reducible rfl
            rotate_left
            · simp only [Act.put, List.setIfInBounds_toArray, List.set_cons_zero, List.set_cons_succ, i64_w, i32_w]
              rfl
            refine pure_ (i := 3) (N := some 61) (v := ?_) (a' := ?_) #[true, true, true, true, false, false, false, false, false, false, false] rfl rfl (by kernel_rfl) (fun _ _ _ h => h) (Or.inl ⟨by rfl, ?_⟩) ?_ ?_
            rotate_left
            · intro w'
              go_simp
              with_reducible rfl
            rotate_left
            · simp only [Act.put, List.setIfInBounds_toArray, List.set_cons_zero, List.set_cons_succ, i64_w, i32_w]
              rfl
            refine take_ (i := 4) (N := some 62) (v := ?_) (a' := ?_) #[true, true, true, true, true, false, false, false, false, false, false] rfl rfl (by kernel_rfl) (fun _ _ _ h => h) (Or.inl ⟨by rfl, ?_⟩) hHeld ?_ ?_
            rotate_left
            · rintro w' ⟨s0, s1, s2, s3, s4, s5, s6, s7, s8, s9⟩
              go_simp
              with_reducible rfl
            rotate_left
            · simp only [Act.put, List.setIfInBounds_toArray, List.set_cons_zero, List.set_cons_succ, i64_w, i32_w]
              rfl
            refine take_ (i := 6) (N := some 64) (v := ?_) (a' := ?_) #[true, true, true, true, true, false, true, false, false, false, false] rfl rfl (by kernel_rfl) (fun _ _ _ h => h) (Or.inl ⟨by rfl, ?_⟩) hHeld ?_ ?_
            rotate_left
            · rintro w' ⟨s0, s1, s2, s3, s4, s5, s6, s7, s8, s9⟩
              go_simp
              with_reducible rfl
            rotate_left
            · simp only [Act.put, List.setIfInBounds_toArray, List.set_cons_zero, List.set_cons_succ, i64_w, i32_w]
              rfl
            refine one_ (i := 5) (N := some 63) #[true, true, true, true, true, true, true, false, false, false, false] rfl rfl (by kernel_rfl) (by decide) (fun K hK => ?_)
            refine goes_ Try.func22 (by kernel_rfl) rfl #[.agg #[.string r.1.nm, .int .i64 r.1.ar, .int .i64 r.1.sl, .int .i64 r.1.bd, .slice A3 r.1.l.length c3]] (by rfl) rfl rfl (by (try simp only [List.map_toArray, List.map_cons, List.map_nil]); first | done | rfl) ?_
            refine (from_calls r.1 hrl.out A3 c3 _ (Kd.F_now F_c) hc3.out).mono ?_
            rintro e v1 ⟨A5, c5, rfl, hc5, hC5, hb⟩
            refine ⟨_, rfl, ?_⟩
            replace HB := below_step HB hb
            replace B_c := blk_below B_c hb
            replace B_n := blk_below B_n hb
            replace F_c := Kd.F_below F_c hb
            replace F_d := Kd.F_below F_d hb
            clear hb
            refine hK.out _ _ ⟨(blk_cell B_c 0).trans rfl, (blk_cell B_c 1).trans rfl, (blk_cell B_c 2).trans rfl, (blk_cell B_c 3).trans rfl, (blk_cell B_c 4).trans rfl, (blk_cell B_n 0).trans rfl, (blk_cell B_n 1).trans rfl, (blk_cell B_n 2).trans rfl, (blk_cell B_n 3).trans rfl, (blk_cell B_n 4).trans rfl⟩ (fun hHeld => ?_)
            clear hK K
            refine norm_ (a' := ?_) ?_ ?_
            rotate_left
            · show Act.put _ (some 63) _ = _
              simp only [Act.put, List.setIfInBounds_toArray, List.set_cons_zero, List.set_cons_succ, i64_w, i32_w]
              rfl
            clear F_c
            refine one_ (i := 7) (N := some 65) #[true, true, true, true, true, true, true, true, false, false, false] rfl rfl (by kernel_rfl) (by decide) (fun K hK => ?_)
            refine goes_ Try.func22 (by kernel_rfl) rfl #[.agg #[.string r.1.nm, .int .i64 r.1.ar, .int .i64 r.1.sl, .int .i64 r.1.bd, .slice A4 r.1.l.length c4]] (by rfl) rfl rfl (by (try simp only [List.map_toArray, List.map_cons, List.map_nil]); first | done | rfl) ?_
            refine (from_calls r.1 hrl.out A4 c4 _ (Kd.F_now F_d) hc4.out).mono ?_
            rintro e v2 ⟨A6, c6, rfl, hc6, hC6, hb⟩
            refine ⟨_, rfl, ?_⟩
            replace HB := below_step HB hb
            replace B_c := blk_below B_c hb
            replace B_n := blk_below B_n hb
            replace F_d := Kd.F_below F_d hb
            replace hC5 := Kd.C_below hC5 hb
            clear hb
            refine hK.out _ _ ⟨(blk_cell B_c 0).trans rfl, (blk_cell B_c 1).trans rfl, (blk_cell B_c 2).trans rfl, (blk_cell B_c 3).trans rfl, (blk_cell B_c 4).trans rfl, (blk_cell B_n 0).trans rfl, (blk_cell B_n 1).trans rfl, (blk_cell B_n 2).trans rfl, (blk_cell B_n 3).trans rfl, (blk_cell B_n 4).trans rfl⟩ (fun hHeld => ?_)
            clear hK K
            refine norm_ (a' := ?_) ?_ ?_
            rotate_left
            · show Act.put _ (some 65) _ = _
              simp only [Act.put, List.setIfInBounds_toArray, List.set_cons_zero, List.set_cons_succ, i64_w, i32_w]
              rfl
            clear F_d
            refine one_ (i := 8) (N := some 66) #[true, true, true, true, true, true, true, true, true, false, false] rfl rfl (by kernel_rfl) (by decide) (fun K hK => ?_)
            refine goes_ Try.func21 (by kernel_rfl) rfl #[.agg #[.string r.1.nm, .int .i64 r.1.ar, .int .i64 r.1.sl, .int .i64 r.1.bd, .slice A5 (r.1.l.map vnoc).length c5], .agg #[.string r.1.nm, .int .i64 r.1.ar, .int .i64 r.1.sl, .int .i64 r.1.bd, .slice A6 (r.1.l.map vnoc).length c6]] (by rfl) rfl rfl (by (try simp only [List.map_toArray, List.map_cons, List.map_nil]); first | done | rfl) ?_
            refine (same18_calls r.1.nm r.1.ar r.1.sl r.1.bd (r.1.l.map vnoc) (by rw [List.length_map]; exact hrl.out) A5 A6 c5 c6 _ hC5 hc5 hC6 hc6).mono ?_
            rintro e v3 ⟨rfl, hb⟩
            refine ⟨_, rfl, ?_⟩
            replace HB := below_step HB hb
            replace B_c := blk_below B_c hb
            replace B_n := blk_below B_n hb
            clear hb
            refine hK.out _ _ ⟨(blk_cell B_c 0).trans rfl, (blk_cell B_c 1).trans rfl, (blk_cell B_c 2).trans rfl, (blk_cell B_c 3).trans rfl, (blk_cell B_c 4).trans rfl, (blk_cell B_n 0).trans rfl, (blk_cell B_n 1).trans rfl, (blk_cell B_n 2).trans rfl, (blk_cell B_n 3).trans rfl, (blk_cell B_n 4).trans rfl⟩ (fun hHeld => ?_)
            clear hK K
            refine norm_ (a' := ?_) ?_ ?_
            rotate_left
            · show Act.put _ (some 66) _ = _
              simp only [Act.put, List.setIfInBounds_toArray, List.set_cons_zero, List.set_cons_succ, i64_w, i32_w]
              rfl
            refine pure_ (i := 9) (N := some 67) (v := ?_) (a' := ?_) #[true, true, true, true, true, true, true, true, true, true, false] rfl rfl (by kernel_rfl) (fun _ _ _ h => h) (Or.inl ⟨by rfl, ?_⟩) ?_ ?_
            rotate_left
            · intro w'
              go_simp
              with_reducible rfl
            rotate_left
            · simp only [Act.put, List.setIfInBounds_toArray, List.set_cons_zero, List.set_cons_succ, i64_w, i32_w]
              rfl
            refine pure_ (i := 10) (N := some 6) (v := ?_) (a' := ?_) #[true, true, true, true, true, true, true, true, true, true, true] rfl rfl (by kernel_rfl) (fun _ _ _ h => h) (Or.inl ⟨by rfl, ?_⟩) ?_ ?_
            rotate_left
            · intro w'
              go_simp
              with_reducible rfl
            rotate_left
            · simp only [Act.put, List.setIfInBounds_toArray, List.set_cons_zero, List.set_cons_succ, i64_w, i32_w]
              rfl
            refine done_ (by kernel_rfl) ?_
            replace HB := Aside0.mk HB
            clear hHeld
            go_wp2_with fail
            go_ret
            exact ⟨rfl, HB.out⟩
          · refine value_ (w1 := ?_) (v := ?_) (by rfl) rfl ?_ ?_
            rotate_left 2
            · go_simp
              constructor
              · rfl
              · rfl
            have hb := below_alloc (Below.refl z2.heap.size z2) (.cells #[.string ⟨#[]⟩, .int .i64 0, .int .i64 0, .int .i64 0, .slice none 0 0] 28)
            have B_n0 := heap_alloc_new z2 (.cells #[.string ⟨#[]⟩, .int .i64 0, .int .i64 0, .int .i64 0, .slice none 0 0] 28)
            have hgy0 := HZ.size
            replace HB := below_step HB hb
            replace B_r := blk_below B_r hb
            replace B_8 := blk_below B_8 hb
            replace B_9 := blk_below B_9 hb
            replace B_b := blk_below B_b hb
            replace B_c := blk_below B_c hb
            replace F_c := Kd.F_below F_c hb
            replace F_p := Kd.F_below F_p hb
            replace F_q := Kd.F_below F_q hb
            replace HZ := below_step HZ hb
            clear hb
            have B_n := B_n0
            clear B_n0
            refine hK.out _ _ ⟨(blk_cell B_r 0).trans rfl, (blk_cell B_8 0).trans rfl, (blk_cell B_8 1).trans rfl, (blk_cell B_8 2).trans rfl, (blk_cell B_8 3).trans rfl, (blk_cell B_9 0).trans rfl, (blk_cell B_9 1).trans rfl, (blk_cell B_9 2).trans rfl, (blk_cell B_9 3).trans rfl⟩ (fun hHeld => ?_)
            clear hK K
            refine norm_ (a' := ?_) ?_ ?_
            rotate_left
            · show Act.put _ (some 14) _ = _
              simp only [Act.put, List.setIfInBounds_toArray, List.set_cons_zero, List.set_cons_succ, i64_w, i32_w]
              rfl
            obtain ⟨gn, hgn_⟩ : ∃ gn, gn = z2.heap.size := ⟨_, rfl⟩
            have hgy : Aside0 (z0.heap.size ≤ gn) := ⟨by omega⟩
            rw [← hgn_] at B_n ⊢
            clear hgn_ hgy0
            generalize z2.alloc (.cells #[.string ⟨#[]⟩, .int .i64 0, .int .i64 0, .int .i64 0, .slice none 0 0] 28) = z3 at *
            refine one_ (i := 6) (N := some 55) #[true, true, true, true, true, true, true, false, false, false, true, false, false] rfl rfl (by kernel_rfl) (by decide) (fun K hK => ?_)
            refine goes_ Try.func41 (by kernel_rfl) rfl #[.agg #[.int .i64 (renT by_ x).f0, .int .i64 (renT by_ x).f1, .string (renT by_ x).f2, .slice Ap (renT by_ x).f3.length cp], .agg #[.int .i64 (renT by_ y).f0, .int .i64 (renT by_ y).f1, .string (renT by_ y).f2, .slice Aq (renT by_ y).f3.length cq]] (by rfl) rfl rfl (by (try simp only [List.map_toArray, List.map_cons, List.map_nil]); first | done | rfl) ?_
            refine (compile_calls (renT by_ x) (renT by_ y) (by rw [szT_ren]; have := hsx.out; omega) (by rw [szT_ren]; have := hsy.out; omega) Ap Aq cp cq _ (Kd.F_now F_p) (Kd.F_now F_q)).mono ?_
            rw [Hr_.out]
            rintro e z4 ⟨A4, c4, rfl, hc4, F_d, hb⟩
            refine ⟨_, rfl, ?_⟩
            have hln := blk_lt B_n
            replace F_d := Kd.F_mono F_d (ok' := fun k => k ≠ gn) (fun k hk => by omega)
            clear hln
            replace HB := below_step HB hb
            replace B_r := blk_below B_r hb
            replace B_8 := blk_below B_8 hb
            replace B_9 := blk_below B_9 hb
            replace B_b := blk_below B_b hb
            replace B_c := blk_below B_c hb
            replace B_n := blk_below B_n hb
            replace F_c := Kd.F_below F_c hb
            replace F_p := Kd.F_below F_p hb
            replace F_q := Kd.F_below F_q hb
            replace HZ := below_step HZ hb
            clear hb F_p F_q
            replace hc4 := Aside0.mk hc4
            refine hK.out _ _ ⟨(blk_cell B_r 0).trans rfl, (blk_cell B_8 0).trans rfl, (blk_cell B_8 1).trans rfl, (blk_cell B_8 2).trans rfl, (blk_cell B_8 3).trans rfl, (blk_cell B_9 0).trans rfl, (blk_cell B_9 1).trans rfl, (blk_cell B_9 2).trans rfl, (blk_cell B_9 3).trans rfl⟩ (fun hHeld => ?_)
            clear hK K
            refine norm_ (a' := ?_) ?_ ?_
            rotate_left
            · show Act.put _ (some 55) _ = _
              simp only [Act.put, List.setIfInBounds_toArray, List.set_cons_zero, List.set_cons_succ, i64_w, i32_w]
              rfl
            refine pure_ (i := 7) (N := some 48) (v := ?_) (a' := ?_) #[true, true, true, true, true, true, true, true, false, false, true, false, false] rfl rfl (by kernel_rfl) (fun _ _ _ h => h) (Or.inl ⟨by rfl, ?_⟩) ?_ ?_
            rotate_left
            · intro w'
              go_simp
              with_reducible rfl
            rotate_left
            · simp only [Act.put, List.setIfInBounds_toArray, List.set_cons_zero, List.set_cons_succ, i64_w, i32_w]
              rfl
            refine pure_ (i := 8) (N := some 56) (v := ?_) (a' := ?_) #[true, true, true, true, true, true, true, true, true, false, true, false, false] rfl rfl (by kernel_rfl) (fun _ _ _ h => h) (Or.inl ⟨by rfl, ?_⟩) ?_ ?_
            rotate_left
            · intro w'
              go_simp
              with_reducible rfl
            rotate_left
            · simp only [Act.put, List.setIfInBounds_toArray, List.set_cons_zero, List.set_cons_succ, i64_w, i32_w]
              rfl
            refine pure_ (i := 9) (N := some 57) (v := ?_) (a' := ?_) #[true, true, true, true, true, true, true, true, true, true, true, false, false] rfl rfl (by kernel_rfl) (fun _ _ _ h => h) (Or.inl ⟨by rfl, ?_⟩) ?_ ?_
            rotate_left
            · intro w'
              go_simp
              with_reducible rfl
            rotate_left
            · simp only [Act.put, List.setIfInBounds_toArray, List.set_cons_zero, List.set_cons_succ, i64_w, i32_w]
              rfl
            refine last_ (i := 11) (N := none) #[true, true, true, true, true, true, true, true, true, true, true, true, false] rfl rfl (by kernel_rfl) (by decide) (fun K hK => ?_)
            refine skip_ (by rfl) rfl (w1 := ?_) ?_ ?_
            rotate_left
            · have z0 := blk_frozen B_n 0
              have z1 := blk_frozen B_n 1
              have z2 := blk_frozen B_n 2
              have z3 := blk_frozen B_n 3
              have z4 := blk_frozen B_n 4
              have y0 := (blk_cell B_n 0).trans rfl
              have y1 := (blk_cell B_n 1).trans rfl
              have y2 := (blk_cell B_n 2).trans rfl
              have y3 := (blk_cell B_n 3).trans rfl
              have y4 := (blk_cell B_n 4).trans rfl
              go_simp
              rfl
            refine hK.out _ _ ?_
            clear hK K
            refine pure_ (i := 12) (N := some 15) (v := ?_) (a' := ?_) #[true, true, true, true, true, true, true, true, true, true, true, true, true] rfl rfl (by kernel_rfl) (fun _ _ _ h => h) (Or.inl ⟨by rfl, ?_⟩) ?_ ?_
            rotate_left
            · intro w'
              go_simp
              with_reducible rfl
            rotate_left
            · simp only [Act.put, List.setIfInBounds_toArray, List.set_cons_zero, List.set_cons_succ, i64_w, i32_w]
              rfl
            refine done_ (by kernel_rfl) ?_
            have sm := set5 z4 gn (.string r.1.nm) (.int .i64 r.1.ar) (.int .i64 r.1.sl) (.int .i64 r.1.bd) (.slice A4 r.1.l.length c4)
            have sb := blk5 (.string r.1.nm) (.int .i64 r.1.ar) (.int .i64 r.1.sl) (.int .i64 r.1.bd) (.slice A4 r.1.l.length c4) B_n
            replace B_c := sm.blk B_c (by have := hl_c.out; have := hgy.out; omega)
            replace HB := sm.under HB (Nat.le_refl _) (fun k hk => by have := hl_w.out; have := hgy.out; omega)
            replace F_c := Kd.F_step F_c (fun q hq hl => sm.block q hl (by have := hq; have := hgy.out; omega))
            replace F_d := Kd.F_step F_d (fun q hq hl => sm.block q hl hq)
            clear sm B_n B_r B_8 B_9 B_b HZ hHeld
            generalize (((((z4.setCell ⟨gn, 0, none⟩ (.string r.1.nm)).setCell ⟨gn, 1, none⟩ (.int .i64 r.1.ar)).setCell ⟨gn, 2, none⟩ (.int .i64 r.1.sl)).setCell ⟨gn, 3, none⟩ (.int .i64 r.1.bd)).setCell ⟨gn, 4, none⟩ (.slice A4 r.1.l.length c4)) = y1 at *
            replace sb := Aside0.mk sb
            replace B_c := Aside0.mk B_c
            replace HB := Aside0.mk HB
            replace F_c := Aside0.mk F_c
            replace F_d := Aside0.mk F_d
            go_wp2_with fail
            replace sb := sb.out
            replace B_c := B_c.out
            replace HB := HB.out
            replace F_c := F_c.out
            replace F_d := F_d.out
            have B_n := sb
            clear sb
            refine start_ (n := 11) (S := fun w' => w'.cell? ⟨w10.heap.size, 0, none⟩ = some (.string r.1.nm) ∧ w'.cell? ⟨w10.heap.size, 1, none⟩ = some (.int .i64 r.1.ar) ∧ w'.cell? ⟨w10.heap.size, 2, none⟩ = some (.int .i64 r.1.sl) ∧ w'.cell? ⟨w10.heap.size, 3, none⟩ = some (.int .i64 r.1.bd) ∧ w'.cell? ⟨w10.heap.size, 4, none⟩ = some (.slice A3 r.1.l.length c3) ∧ w'.cell? ⟨gn, 0, none⟩ = some (.string r.1.nm) ∧ w'.cell? ⟨gn, 1, none⟩ = some (.int .i64 r.1.ar) ∧ w'.cell? ⟨gn, 2, none⟩ = some (.int .i64 r.1.sl) ∧ w'.cell? ⟨gn, 3, none⟩ = some (.int .i64 r.1.bd) ∧ w'.cell? ⟨gn, 4, none⟩ = some (.slice A4 r.1.l.length c4)) (ds := []) #[false, false, false, false, false, false, false, false, false, false, false] (by kernel_rfl) rfl rfl ⟨(blk_cell (blk_drew B_c) 0).trans rfl, (blk_cell (blk_drew B_c) 1).trans rfl, (blk_cell (blk_drew B_c) 2).trans rfl, (blk_cell (blk_drew B_c) 3).trans rfl, (blk_cell (blk_drew B_c) 4).trans rfl, (blk_cell (blk_drew B_n) 0).trans rfl, (blk_cell (blk_drew B_n) 1).trans rfl, (blk_cell (blk_drew B_n) 2).trans rfl, (blk_cell (blk_drew B_n) 3).trans rfl, (blk_cell (blk_drew B_n) 4).trans rfl⟩ (fun hHeld => ?_)
            replace B_c := blk_drew B_c
            replace B_n := blk_drew B_n
            replace HB := HB.drew
            replace F_c := Kd.F_drew F_c
            replace F_d := Kd.F_drew F_d
            generalize y1.drew = v0 at *
            refine pure_ (i := 0) (N := some 58) (v := ?_) (a' := ?_) #[true, false, false, false, false, false, false, false, false, false, false] rfl rfl (by kernel_rfl) (fun _ _ _ h => h) (Or.inl ⟨by rfl, ?_⟩) ?_ ?_
            rotate_left
            · intro w'
              go_simp
              with_reducible rfl
            rotate_left
            · simp only [Act.put, List.setIfInBounds_toArray, List.set_cons_zero, List.set_cons_succ, i64_w, i32_w]
              rfl
            refine pure_ (i := 1) (N := some 59) (v := ?_) (a' := ?_) #[true, true, false, false, false, false, false, false, false, false, false] rfl rfl (by kernel_rfl) (fun _ _ _ h => h) (Or.inl ⟨by rfl, ?_⟩) ?_ ?_
            rotate_left
            · intro w'
              go_simp
              with_reducible rfl
            rotate_left
            · simp only [Act.put, List.setIfInBounds_toArray, List.set_cons_zero, List.set_cons_succ, i64_w, i32_w]
              rfl
            refine pure_ (i := 2) (N := some 60) (v := ?_) (a' := ?_) #[true, true, true, false, false, false, false, false, false, false, false] rfl rfl (by kernel_rfl) (fun _ _ _ h => h) (Or.inl ⟨by rfl, ?_⟩) ?_ ?_
            rotate_left
            · intro w'
              go_simp
              with_reducible rfl
            rotate_left
            · simp only [Act.put, List.setIfInBounds_toArray, List.set_cons_zero, List.set_cons_succ, i64_w, i32_w]
              rfl
            refine pure_ (i := 3) (N := some 61) (v := ?_) (a' := ?_) #[true, true, true, true, false, false, false, false, false, false, false] rfl rfl (by kernel_rfl) (fun _ _ _ h => h) (Or.inl ⟨by rfl, ?_⟩) ?_ ?_
            rotate_left
            · intro w'
              go_simp
              with_reducible rfl
            rotate_left
            · simp only [Act.put, List.setIfInBounds_toArray, List.set_cons_zero, List.set_cons_succ, i64_w, i32_w]
              rfl
            refine take_ (i := 4) (N := some 62) (v := ?_) (a' := ?_) #[true, true, true, true, true, false, false, false, false, false, false] rfl rfl (by kernel_rfl) (fun _ _ _ h => h) (Or.inl ⟨by rfl, ?_⟩) hHeld ?_ ?_
            rotate_left
            · rintro w' ⟨s0, s1, s2, s3, s4, s5, s6, s7, s8, s9⟩
              go_simp
              with_reducible rfl
            rotate_left
            · simp only [Act.put, List.setIfInBounds_toArray, List.set_cons_zero, List.set_cons_succ, i64_w, i32_w]
              rfl
            refine take_ (i := 6) (N := some 64) (v := ?_) (a' := ?_) #[true, true, true, true, true, false, true, false, false, false, false] rfl rfl (by kernel_rfl) (fun _ _ _ h => h) (Or.inl ⟨by rfl, ?_⟩) hHeld ?_ ?_
            rotate_left
            · rintro w' ⟨s0, s1, s2, s3, s4, s5, s6, s7, s8, s9⟩
              go_simp
              with_reducible rfl
            rotate_left
            · simp only [Act.put, List.setIfInBounds_toArray, List.set_cons_zero, List.set_cons_succ, i64_w, i32_w]
              rfl
            refine one_ (i := 5) (N := some 63) #[true, true, true, true, true, true, true, false, false, false, false] rfl rfl (by kernel_rfl) (by decide) (fun K hK => ?_)
            refine goes_ Try.func22 (by kernel_rfl) rfl #[.agg #[.string r.1.nm, .int .i64 r.1.ar, .int .i64 r.1.sl, .int .i64 r.1.bd, .slice A3 r.1.l.length c3]] (by rfl) rfl rfl (by (try simp only [List.map_toArray, List.map_cons, List.map_nil]); first | done | rfl) ?_
            refine (from_calls r.1 hrl.out A3 c3 _ (Kd.F_now F_c) hc3.out).mono ?_
            rintro e v1 ⟨A5, c5, rfl, hc5, hC5, hb⟩
            refine ⟨_, rfl, ?_⟩
            replace HB := below_step HB hb
            replace B_c := blk_below B_c hb
            replace B_n := blk_below B_n hb
            replace F_c := Kd.F_below F_c hb
            replace F_d := Kd.F_below F_d hb
            clear hb
            refine hK.out _ _ ⟨(blk_cell B_c 0).trans rfl, (blk_cell B_c 1).trans rfl, (blk_cell B_c 2).trans rfl, (blk_cell B_c 3).trans rfl, (blk_cell B_c 4).trans rfl, (blk_cell B_n 0).trans rfl, (blk_cell B_n 1).trans rfl, (blk_cell B_n 2).trans rfl, (blk_cell B_n 3).trans rfl, (blk_cell B_n 4).trans rfl⟩ (fun hHeld => ?_)
            clear hK K
            refine norm_ (a' := ?_) ?_ ?_
            rotate_left
            · show Act.put _ (some 63) _ = _
              simp only [Act.put, List.setIfInBounds_toArray, List.set_cons_zero, List.set_cons_succ, i64_w, i32_w]
              rfl
            clear F_c
            refine one_ (i := 7) (N := some 65) #[true, true, true, true, true, true, true, true, false, false, false] rfl rfl (by kernel_rfl) (by decide) (fun K hK => ?_)
            refine goes_ Try.func22 (by kernel_rfl) rfl #[.agg #[.string r.1.nm, .int .i64 r.1.ar, .int .i64 r.1.sl, .int .i64 r.1.bd, .slice A4 r.1.l.length c4]] (by rfl) rfl rfl (by (try simp only [List.map_toArray, List.map_cons, List.map_nil]); first | done | rfl) ?_
            refine (from_calls r.1 hrl.out A4 c4 _ (Kd.F_now F_d) hc4.out).mono ?_
            rintro e v2 ⟨A6, c6, rfl, hc6, hC6, hb⟩
            refine ⟨_, rfl, ?_⟩
            replace HB := below_step HB hb
            replace B_c := blk_below B_c hb
            replace B_n := blk_below B_n hb
            replace F_d := Kd.F_below F_d hb
            replace hC5 := Kd.C_below hC5 hb
            clear hb
            refine hK.out _ _ ⟨(blk_cell B_c 0).trans rfl, (blk_cell B_c 1).trans rfl, (blk_cell B_c 2).trans rfl, (blk_cell B_c 3).trans rfl, (blk_cell B_c 4).trans rfl, (blk_cell B_n 0).trans rfl, (blk_cell B_n 1).trans rfl, (blk_cell B_n 2).trans rfl, (blk_cell B_n 3).trans rfl, (blk_cell B_n 4).trans rfl⟩ (fun hHeld => ?_)
            clear hK K
            refine norm_ (a' := ?_) ?_ ?_
            rotate_left
            · show Act.put _ (some 65) _ = _
              simp only [Act.put, List.setIfInBounds_toArray, List.set_cons_zero, List.set_cons_succ, i64_w, i32_w]
              rfl
            clear F_d
            refine one_ (i := 8) (N := some 66) #[true, true, true, true, true, true, true, true, true, false, false] rfl rfl (by kernel_rfl) (by decide) (fun K hK => ?_)
            refine goes_ Try.func21 (by kernel_rfl) rfl #[.agg #[.string r.1.nm, .int .i64 r.1.ar, .int .i64 r.1.sl, .int .i64 r.1.bd, .slice A5 (r.1.l.map vnoc).length c5], .agg #[.string r.1.nm, .int .i64 r.1.ar, .int .i64 r.1.sl, .int .i64 r.1.bd, .slice A6 (r.1.l.map vnoc).length c6]] (by rfl) rfl rfl (by (try simp only [List.map_toArray, List.map_cons, List.map_nil]); first | done | rfl) ?_
            refine (same18_calls r.1.nm r.1.ar r.1.sl r.1.bd (r.1.l.map vnoc) (by rw [List.length_map]; exact hrl.out) A5 A6 c5 c6 _ hC5 hc5 hC6 hc6).mono ?_
            rintro e v3 ⟨rfl, hb⟩
            refine ⟨_, rfl, ?_⟩
            replace HB := below_step HB hb
            replace B_c := blk_below B_c hb
            replace B_n := blk_below B_n hb
            clear hb
            refine hK.out _ _ ⟨(blk_cell B_c 0).trans rfl, (blk_cell B_c 1).trans rfl, (blk_cell B_c 2).trans rfl, (blk_cell B_c 3).trans rfl, (blk_cell B_c 4).trans rfl, (blk_cell B_n 0).trans rfl, (blk_cell B_n 1).trans rfl, (blk_cell B_n 2).trans rfl, (blk_cell B_n 3).trans rfl, (blk_cell B_n 4).trans rfl⟩ (fun hHeld => ?_)
            clear hK K
            refine norm_ (a' := ?_) ?_ ?_
            rotate_left
            · show Act.put _ (some 66) _ = _
              simp only [Act.put, List.setIfInBounds_toArray, List.set_cons_zero, List.set_cons_succ, i64_w, i32_w]
              rfl
            refine pure_ (i := 9) (N := some 67) (v := ?_) (a' := ?_) #[true, true, true, true, true, true, true, true, true, true, false] rfl rfl (by kernel_rfl) (fun _ _ _ h => h) (Or.inl ⟨by rfl, ?_⟩) ?_ ?_
            rotate_left
            · intro w'
              go_simp
              with_reducible rfl
            rotate_left
            · simp only [Act.put, List.setIfInBounds_toArray, List.set_cons_zero, List.set_cons_succ, i64_w, i32_w]
              rfl
            refine pure_ (i := 10) (N := some 6) (v := ?_) (a' := ?_) #[true, true, true, true, true, true, true, true, true, true, true] rfl rfl (by kernel_rfl) (fun _ _ _ h => h) (Or.inl ⟨by rfl, ?_⟩) ?_ ?_
            rotate_left
            · intro w'
              go_simp
              with_reducible rfl
            rotate_left
            · simp only [Act.put, List.setIfInBounds_toArray, List.set_cons_zero, List.set_cons_succ, i64_w, i32_w]
              rfl
            refine done_ (by kernel_rfl) ?_
            replace HB := Aside0.mk HB
            clear hHeld
            go_wp2_with fail
            go_ret
            exact ⟨rfl, HB.out⟩
        · refine value_ (w1 := ?_) (v := ?_) (by rfl) rfl ?_ ?_
          rotate_left 2
          · go_simp
            constructor
            · rfl
            · rfl
          have hb := below_alloc (Below.refl z1.heap.size z1) (.cells #[.string ⟨#[]⟩, .int .i64 0, .int .i64 0, .int .i64 0, .slice none 0 0] 28)
          have B_n0 := heap_alloc_new z1 (.cells #[.string ⟨#[]⟩, .int .i64 0, .int .i64 0, .int .i64 0, .slice none 0 0] 28)
          have hgy0 := HZ.size
          replace HB := below_step HB hb
          replace B_r := blk_below B_r hb
          replace B_8 := blk_below B_8 hb
          replace B_9 := blk_below B_9 hb
          replace B_b := blk_below B_b hb
          replace B_c := blk_below B_c hb
          replace F_y := Kd.F_below F_y hb
          replace F_c := Kd.F_below F_c hb
          replace F_p := Kd.F_below F_p hb
          replace HZ := below_step HZ hb
          clear hb
          have B_n := B_n0
          clear B_n0
          refine hK.out _ _ ⟨(blk_cell B_r 0).trans rfl, (blk_cell B_8 0).trans rfl, (blk_cell B_8 1).trans rfl, (blk_cell B_8 2).trans rfl, (blk_cell B_8 3).trans rfl, (blk_cell B_9 0).trans rfl, (blk_cell B_9 1).trans rfl, (blk_cell B_9 2).trans rfl, (blk_cell B_9 3).trans rfl⟩ (fun hHeld => ?_)
          clear hK K
          refine norm_ (a' := ?_) ?_ ?_
          rotate_left
          · show Act.put _ (some 14) _ = _
            simp only [Act.put, List.setIfInBounds_toArray, List.set_cons_zero, List.set_cons_succ, i64_w, i32_w]
            rfl
          obtain ⟨gn, hgn_⟩ : ∃ gn, gn = z1.heap.size := ⟨_, rfl⟩
          have hgy : Aside0 (z0.heap.size ≤ gn) := ⟨by omega⟩
          rw [← hgn_] at B_n ⊢
          clear hgn_ hgy0
          generalize z1.alloc (.cells #[.string ⟨#[]⟩, .int .i64 0, .int .i64 0, .int .i64 0, .slice none 0 0] 28) = z2 at *
          refine one_ (i := 5) (N := some 54) #[true, true, true, true, true, true, false, false, false, false, true, false, false] rfl rfl (by kernel_rfl) (by decide) (fun K hK => ?_)
          refine goesF_ Try.func38 (by kernel_rfl) rfl #[.agg #[.int .i64 y.f0, .int .i64 y.f1, .string y.f2, .slice A2 y.f3.length c2], .pointer (some ⟨w.heap.size, 0, none⟩), .pointer (some ⟨gr, 0, none⟩)] (.tmp 52) #[] #[.pointer (some ⟨w.heap.size, 0, none⟩), .pointer (some ⟨gr, 0, none⟩)] (by rfl) rfl rfl rfl (by (try simp only [List.map_toArray, List.map_cons, List.map_nil]); first | done | rfl) ?_
          refine (rename_calls 1000 (by omega) by_ _ gr y (by have := hsy.out; omega) A2 c2 _ (Kd.F_now F_y) hc2.out B_b B_r).mono ?_
          rintro e z3 ⟨Aq, cq, rfl, hcq, F_q, hb⟩
          refine ⟨_, rfl, ?_⟩
          replace HB := below_step HB hb
          replace B_r := blk_below B_r hb
          replace B_8 := blk_below B_8 hb
          replace B_9 := blk_below B_9 hb
          replace B_b := blk_below B_b hb
          replace B_c := blk_below B_c hb
          replace B_n := blk_below B_n hb
          replace F_y := Kd.F_below F_y hb
          replace F_c := Kd.F_below F_c hb
          replace F_p := Kd.F_below F_p hb
          replace HZ := below_step HZ hb
          clear hb F_y
          replace hcq := Aside0.mk hcq
          refine hK.out _ _ ⟨(blk_cell B_r 0).trans rfl, (blk_cell B_8 0).trans rfl, (blk_cell B_8 1).trans rfl, (blk_cell B_8 2).trans rfl, (blk_cell B_8 3).trans rfl, (blk_cell B_9 0).trans rfl, (blk_cell B_9 1).trans rfl, (blk_cell B_9 2).trans rfl, (blk_cell B_9 3).trans rfl⟩ (fun hHeld => ?_)
          clear hK K
          refine norm_ (a' := ?_) ?_ ?_
          rotate_left
          · show Act.put _ (some 54) _ = _
            simp only [Act.put, List.setIfInBounds_toArray, List.set_cons_zero, List.set_cons_succ, i64_w, i32_w]
            rfl
          refine one_ (i := 6) (N := some 55) #[true, true, true, true, true, true, true, false, false, false, true, false, false] rfl rfl (by kernel_rfl) (by decide) (fun K hK => ?_)
          refine goes_ Try.func41 (by kernel_rfl) rfl #[.agg #[.int .i64 (renT by_ x).f0, .int .i64 (renT by_ x).f1, .string (renT by_ x).f2, .slice Ap (renT by_ x).f3.length cp], .agg #[.int .i64 (renT by_ y).f0, .int .i64 (renT by_ y).f1, .string (renT by_ y).f2, .slice Aq (renT by_ y).f3.length cq]] (by rfl) rfl rfl (by (try simp only [List.map_toArray, List.map_cons, List.map_nil]); first | done | rfl) ?_
          refine (compile_calls (renT by_ x) (renT by_ y) (by rw [szT_ren]; have := hsx.out; omega) (by rw [szT_ren]; have := hsy.out; omega) Ap Aq cp cq _ (Kd.F_now F_p) (Kd.F_now F_q)).mono ?_
          rw [Hr_.out]
          rintro e z4 ⟨A4, c4, rfl, hc4, F_d, hb⟩
          refine ⟨_, rfl, ?_⟩
          have hln := blk_lt B_n
          replace F_d := Kd.F_mono F_d (ok' := fun k => k ≠ gn) (fun k hk => by omega)
          clear hln
          replace HB := below_step HB hb
          replace B_r := blk_below B_r hb
          replace B_8 := blk_below B_8 hb
          replace B_9 := blk_below B_9 hb
          replace B_b := blk_below B_b hb
          replace B_c := blk_below B_c hb
          replace B_n := blk_below B_n hb
          replace F_c := Kd.F_below F_c hb
          replace F_p := Kd.F_below F_p hb
          replace F_q := Kd.F_below F_q hb
          replace HZ := below_step HZ hb
          clear hb F_p F_q
          replace hc4 := Aside0.mk hc4
          refine hK.out _ _ ⟨(blk_cell B_r 0).trans rfl, (blk_cell B_8 0).trans rfl, (blk_cell B_8 1).trans rfl, (blk_cell B_8 2).trans rfl, (blk_cell B_8 3).trans rfl, (blk_cell B_9 0).trans rfl, (blk_cell B_9 1).trans rfl, (blk_cell B_9 2).trans rfl, (blk_cell B_9 3).trans rfl⟩ (fun hHeld => ?_)
          clear hK K
          refine norm_ (a' := ?_) ?_ ?_
          rotate_left
          · show Act.put _ (some 55) _ = _
            simp only [Act.put, List.setIfInBounds_toArray, List.set_cons_zero, List.set_cons_succ, i64_w, i32_w]
            rfl
          refine pure_ (i := 7) (N := some 48) (v := ?_) (a' := ?_) #[true, true, true, true, true, true, true, true, false, false, true, false, false] rfl rfl (by kernel_rfl) (fun _ _ _ h => h) (Or.inl ⟨by rfl, ?_⟩) ?_ ?_
          rotate_left
          · intro w'
            go_simp
            with_reducible rfl
          rotate_left
          · simp only [Act.put, List.setIfInBounds_toArray, List.set_cons_zero, List.set_cons_succ, i64_w, i32_w]
            rfl
          refine pure_ (i := 8) (N := some 56) (v := ?_) (a' := ?_) #[true, true, true, true, true, true, true, true, true, false, true, false, false] rfl rfl (by kernel_rfl) (fun _ _ _ h => h) (Or.inl ⟨by rfl, ?_⟩) ?_ ?_
          rotate_left
          · intro w'
            go_simp
            with_reducible rfl
          rotate_left
          · simp only [Act.put, List.setIfInBounds_toArray, List.set_cons_zero, List.set_cons_succ, i64_w, i32_w]
            rfl
          refine pure_ (i := 9) (N := some 57) (v := ?_) (a' := ?_) #[true, true, true, true, true, true, true, true, true, true, true, false, false] rfl rfl (by kernel_rfl) (fun _ _ _ h => h) (Or.inl ⟨by rfl, ?_⟩) ?_ ?_
          rotate_left
          · intro w'
            go_simp
            with_reducible rfl
          rotate_left
          · simp only [Act.put, List.setIfInBounds_toArray, List.set_cons_zero, List.set_cons_succ, i64_w, i32_w]
            rfl
          refine last_ (i := 11) (N := none) #[true, true, true, true, true, true, true, true, true, true, true, true, false] rfl rfl (by kernel_rfl) (by decide) (fun K hK => ?_)
          refine skip_ (by rfl) rfl (w1 := ?_) ?_ ?_
          rotate_left
          · have z0 := blk_frozen B_n 0
            have z1 := blk_frozen B_n 1
            have z2 := blk_frozen B_n 2
            have z3 := blk_frozen B_n 3
            have z4 := blk_frozen B_n 4
            have y0 := (blk_cell B_n 0).trans rfl
            have y1 := (blk_cell B_n 1).trans rfl
            have y2 := (blk_cell B_n 2).trans rfl
            have y3 := (blk_cell B_n 3).trans rfl
            have y4 := (blk_cell B_n 4).trans rfl
            go_simp
            rfl
          refine hK.out _ _ ?_
          clear hK K
          refine pure_ (i := 12) (N := some 15) (v := ?_) (a' := ?_) #[true, true, true, true, true, true, true, true, true, true, true, true, true] rfl rfl (by kernel_rfl) (fun _ _ _ h => h) (Or.inl ⟨by rfl, ?_⟩) ?_ ?_
          rotate_left
          · intro w'
            go_simp
            with_reducible rfl
          rotate_left
          · simp only [Act.put, List.setIfInBounds_toArray, List.set_cons_zero, List.set_cons_succ, i64_w, i32_w]
            rfl
          refine done_ (by kernel_rfl) ?_
          have sm := set5 z4 gn (.string r.1.nm) (.int .i64 r.1.ar) (.int .i64 r.1.sl) (.int .i64 r.1.bd) (.slice A4 r.1.l.length c4)
          have sb := blk5 (.string r.1.nm) (.int .i64 r.1.ar) (.int .i64 r.1.sl) (.int .i64 r.1.bd) (.slice A4 r.1.l.length c4) B_n
          replace B_c := sm.blk B_c (by have := hl_c.out; have := hgy.out; omega)
          replace HB := sm.under HB (Nat.le_refl _) (fun k hk => by have := hl_w.out; have := hgy.out; omega)
          replace F_c := Kd.F_step F_c (fun q hq hl => sm.block q hl (by have := hq; have := hgy.out; omega))
          replace F_d := Kd.F_step F_d (fun q hq hl => sm.block q hl hq)
          clear sm B_n B_r B_8 B_9 B_b HZ hHeld
          generalize (((((z4.setCell ⟨gn, 0, none⟩ (.string r.1.nm)).setCell ⟨gn, 1, none⟩ (.int .i64 r.1.ar)).setCell ⟨gn, 2, none⟩ (.int .i64 r.1.sl)).setCell ⟨gn, 3, none⟩ (.int .i64 r.1.bd)).setCell ⟨gn, 4, none⟩ (.slice A4 r.1.l.length c4)) = y1 at *
          replace sb := Aside0.mk sb
          replace B_c := Aside0.mk B_c
          replace HB := Aside0.mk HB
          replace F_c := Aside0.mk F_c
          replace F_d := Aside0.mk F_d
          go_wp2_with fail
          replace sb := sb.out
          replace B_c := B_c.out
          replace HB := HB.out
          replace F_c := F_c.out
          replace F_d := F_d.out
          have B_n := sb
          clear sb
          refine start_ (n := 11) (S := fun w' => w'.cell? ⟨w10.heap.size, 0, none⟩ = some (.string r.1.nm) ∧ w'.cell? ⟨w10.heap.size, 1, none⟩ = some (.int .i64 r.1.ar) ∧ w'.cell? ⟨w10.heap.size, 2, none⟩ = some (.int .i64 r.1.sl) ∧ w'.cell? ⟨w10.heap.size, 3, none⟩ = some (.int .i64 r.1.bd) ∧ w'.cell? ⟨w10.heap.size, 4, none⟩ = some (.slice A3 r.1.l.length c3) ∧ w'.cell? ⟨gn, 0, none⟩ = some (.string r.1.nm) ∧ w'.cell? ⟨gn, 1, none⟩ = some (.int .i64 r.1.ar) ∧ w'.cell? ⟨gn, 2, none⟩ = some (.int .i64 r.1.sl) ∧ w'.cell? ⟨gn, 3, none⟩ = some (.int .i64 r.1.bd) ∧ w'.cell? ⟨gn, 4, none⟩ = some (.slice A4 r.1.l.length c4)) (ds := []) #[false, false, false, false, false, false, false, false, false, false, false] (by kernel_rfl) rfl rfl ⟨(blk_cell (blk_drew B_c) 0).trans rfl, (blk_cell (blk_drew B_c) 1).trans rfl, (blk_cell (blk_drew B_c) 2).trans rfl, (blk_cell (blk_drew B_c) 3).trans rfl, (blk_cell (blk_drew B_c) 4).trans rfl, (blk_cell (blk_drew B_n) 0).trans rfl, (blk_cell (blk_drew B_n) 1).trans rfl, (blk_cell (blk_drew B_n) 2).trans rfl, (blk_cell (blk_drew B_n) 3).trans rfl, (blk_cell (blk_drew B_n) 4).trans rfl⟩ (fun hHeld => ?_)
          replace B_c := blk_drew B_c
          replace B_n := blk_drew B_n
          replace HB := HB.drew
          replace F_c := Kd.F_drew F_c
          replace F_d := Kd.F_drew F_d
          generalize y1.drew = v0 at *
          refine pure_ (i := 0) (N := some 58) (v := ?_) (a' := ?_) #[true, false, false, false, false, false, false, false, false, false, false] rfl rfl (by kernel_rfl) (fun _ _ _ h => h) (Or.inl ⟨by rfl, ?_⟩) ?_ ?_
          rotate_left
          · intro w'
            go_simp
            with_reducible rfl
          rotate_left
          · simp only [Act.put, List.setIfInBounds_toArray, List.set_cons_zero, List.set_cons_succ, i64_w, i32_w]
            rfl
          refine pure_ (i := 1) (N := some 59) (v := ?_) (a' := ?_) #[true, true, false, false, false, false, false, false, false, false, false] rfl rfl (by kernel_rfl) (fun _ _ _ h => h) (Or.inl ⟨by rfl, ?_⟩) ?_ ?_
          rotate_left
          · intro w'
            go_simp
            with_reducible rfl
          rotate_left
          · simp only [Act.put, List.setIfInBounds_toArray, List.set_cons_zero, List.set_cons_succ, i64_w, i32_w]
            rfl
          refine pure_ (i := 2) (N := some 60) (v := ?_) (a' := ?_) #[true, true, true, false, false, false, false, false, false, false, false] rfl rfl (by kernel_rfl) (fun _ _ _ h => h) (Or.inl ⟨by rfl, ?_⟩) ?_ ?_
          rotate_left
          · intro w'
            go_simp
            with_reducible rfl
          rotate_left
          · simp only [Act.put, List.setIfInBounds_toArray, List.set_cons_zero, List.set_cons_succ, i64_w, i32_w]
            rfl
          refine pure_ (i := 3) (N := some 61) (v := ?_) (a' := ?_) #[true, true, true, true, false, false, false, false, false, false, false] rfl rfl (by kernel_rfl) (fun _ _ _ h => h) (Or.inl ⟨by rfl, ?_⟩) ?_ ?_
          rotate_left
          · intro w'
            go_simp
            with_reducible rfl
          rotate_left
          · simp only [Act.put, List.setIfInBounds_toArray, List.set_cons_zero, List.set_cons_succ, i64_w, i32_w]
            rfl
          refine take_ (i := 4) (N := some 62) (v := ?_) (a' := ?_) #[true, true, true, true, true, false, false, false, false, false, false] rfl rfl (by kernel_rfl) (fun _ _ _ h => h) (Or.inl ⟨by rfl, ?_⟩) hHeld ?_ ?_
          rotate_left
          · rintro w' ⟨s0, s1, s2, s3, s4, s5, s6, s7, s8, s9⟩
            go_simp
            with_reducible rfl
          rotate_left
          · simp only [Act.put, List.setIfInBounds_toArray, List.set_cons_zero, List.set_cons_succ, i64_w, i32_w]
            rfl
          refine take_ (i := 6) (N := some 64) (v := ?_) (a' := ?_) #[true, true, true, true, true, false, true, false, false, false, false] rfl rfl (by kernel_rfl) (fun _ _ _ h => h) (Or.inl ⟨by rfl, ?_⟩) hHeld ?_ ?_
          rotate_left
          · rintro w' ⟨s0, s1, s2, s3, s4, s5, s6, s7, s8, s9⟩
            go_simp
            with_reducible rfl
          rotate_left
          · simp only [Act.put, List.setIfInBounds_toArray, List.set_cons_zero, List.set_cons_succ, i64_w, i32_w]
            rfl
          refine one_ (i := 5) (N := some 63) #[true, true, true, true, true, true, true, false, false, false, false] rfl rfl (by kernel_rfl) (by decide) (fun K hK => ?_)
          refine goes_ Try.func22 (by kernel_rfl) rfl #[.agg #[.string r.1.nm, .int .i64 r.1.ar, .int .i64 r.1.sl, .int .i64 r.1.bd, .slice A3 r.1.l.length c3]] (by rfl) rfl rfl (by (try simp only [List.map_toArray, List.map_cons, List.map_nil]); first | done | rfl) ?_
          refine (from_calls r.1 hrl.out A3 c3 _ (Kd.F_now F_c) hc3.out).mono ?_
          rintro e v1 ⟨A5, c5, rfl, hc5, hC5, hb⟩
          refine ⟨_, rfl, ?_⟩
          replace HB := below_step HB hb
          replace B_c := blk_below B_c hb
          replace B_n := blk_below B_n hb
          replace F_c := Kd.F_below F_c hb
          replace F_d := Kd.F_below F_d hb
          clear hb
          refine hK.out _ _ ⟨(blk_cell B_c 0).trans rfl, (blk_cell B_c 1).trans rfl, (blk_cell B_c 2).trans rfl, (blk_cell B_c 3).trans rfl, (blk_cell B_c 4).trans rfl, (blk_cell B_n 0).trans rfl, (blk_cell B_n 1).trans rfl, (blk_cell B_n 2).trans rfl, (blk_cell B_n 3).trans rfl, (blk_cell B_n 4).trans rfl⟩ (fun hHeld => ?_)
          clear hK K
          refine norm_ (a' := ?_) ?_ ?_
          rotate_left
          · show Act.put _ (some 63) _ = _
            simp only [Act.put, List.setIfInBounds_toArray, List.set_cons_zero, List.set_cons_succ, i64_w, i32_w]
            rfl
          clear F_c
          refine one_ (i := 7) (N := some 65) #[true, true, true, true, true, true, true, true, false, false, false] rfl rfl (by kernel_rfl) (by decide) (fun K hK => ?_)
          refine goes_ Try.func22 (by kernel_rfl) rfl #[.agg #[.string r.1.nm, .int .i64 r.1.ar, .int .i64 r.1.sl, .int .i64 r.1.bd, .slice A4 r.1.l.length c4]] (by rfl) rfl rfl (by (try simp only [List.map_toArray, List.map_cons, List.map_nil]); first | done | rfl) ?_
          refine (from_calls r.1 hrl.out A4 c4 _ (Kd.F_now F_d) hc4.out).mono ?_
          rintro e v2 ⟨A6, c6, rfl, hc6, hC6, hb⟩
          refine ⟨_, rfl, ?_⟩
          replace HB := below_step HB hb
          replace B_c := blk_below B_c hb
          replace B_n := blk_below B_n hb
          replace F_d := Kd.F_below F_d hb
          replace hC5 := Kd.C_below hC5 hb
          clear hb
          refine hK.out _ _ ⟨(blk_cell B_c 0).trans rfl, (blk_cell B_c 1).trans rfl, (blk_cell B_c 2).trans rfl, (blk_cell B_c 3).trans rfl, (blk_cell B_c 4).trans rfl, (blk_cell B_n 0).trans rfl, (blk_cell B_n 1).trans rfl, (blk_cell B_n 2).trans rfl, (blk_cell B_n 3).trans rfl, (blk_cell B_n 4).trans rfl⟩ (fun hHeld => ?_)
          clear hK K
          refine norm_ (a' := ?_) ?_ ?_
          rotate_left
          · show Act.put _ (some 65) _ = _
            simp only [Act.put, List.setIfInBounds_toArray, List.set_cons_zero, List.set_cons_succ, i64_w, i32_w]
            rfl
          clear F_d
          refine one_ (i := 8) (N := some 66) #[true, true, true, true, true, true, true, true, true, false, false] rfl rfl (by kernel_rfl) (by decide) (fun K hK => ?_)
          refine goes_ Try.func21 (by kernel_rfl) rfl #[.agg #[.string r.1.nm, .int .i64 r.1.ar, .int .i64 r.1.sl, .int .i64 r.1.bd, .slice A5 (r.1.l.map vnoc).length c5], .agg #[.string r.1.nm, .int .i64 r.1.ar, .int .i64 r.1.sl, .int .i64 r.1.bd, .slice A6 (r.1.l.map vnoc).length c6]] (by rfl) rfl rfl (by (try simp only [List.map_toArray, List.map_cons, List.map_nil]); first | done | rfl) ?_
          refine (same18_calls r.1.nm r.1.ar r.1.sl r.1.bd (r.1.l.map vnoc) (by rw [List.length_map]; exact hrl.out) A5 A6 c5 c6 _ hC5 hc5 hC6 hc6).mono ?_
          rintro e v3 ⟨rfl, hb⟩
          refine ⟨_, rfl, ?_⟩
          replace HB := below_step HB hb
          replace B_c := blk_below B_c hb
          replace B_n := blk_below B_n hb
          clear hb
          refine hK.out _ _ ⟨(blk_cell B_c 0).trans rfl, (blk_cell B_c 1).trans rfl, (blk_cell B_c 2).trans rfl, (blk_cell B_c 3).trans rfl, (blk_cell B_c 4).trans rfl, (blk_cell B_n 0).trans rfl, (blk_cell B_n 1).trans rfl, (blk_cell B_n 2).trans rfl, (blk_cell B_n 3).trans rfl, (blk_cell B_n 4).trans rfl⟩ (fun hHeld => ?_)
          clear hK K
          refine norm_ (a' := ?_) ?_ ?_
          rotate_left
          · show Act.put _ (some 66) _ = _
            simp only [Act.put, List.setIfInBounds_toArray, List.set_cons_zero, List.set_cons_succ, i64_w, i32_w]
            rfl
          refine pure_ (i := 9) (N := some 67) (v := ?_) (a' := ?_) #[true, true, true, true, true, true, true, true, true, true, false] rfl rfl (by kernel_rfl) (fun _ _ _ h => h) (Or.inl ⟨by rfl, ?_⟩) ?_ ?_
          rotate_left
          · intro w'
            go_simp
            with_reducible rfl
          rotate_left
          · simp only [Act.put, List.setIfInBounds_toArray, List.set_cons_zero, List.set_cons_succ, i64_w, i32_w]
            rfl
          refine pure_ (i := 10) (N := some 6) (v := ?_) (a' := ?_) #[true, true, true, true, true, true, true, true, true, true, true] rfl rfl (by kernel_rfl) (fun _ _ _ h => h) (Or.inl ⟨by rfl, ?_⟩) ?_ ?_
          rotate_left
          · intro w'
            go_simp
            with_reducible rfl
          rotate_left
          · simp only [Act.put, List.setIfInBounds_toArray, List.set_cons_zero, List.set_cons_succ, i64_w, i32_w]
            rfl
          refine done_ (by kernel_rfl) ?_
          replace HB := Aside0.mk HB
          clear hHeld
          go_wp2_with fail
          go_ret
          exact ⟨rfl, HB.out⟩
      · refine value_ (w1 := ?_) (v := ?_) (by rfl) rfl ?_ ?_
        rotate_left 2
        · go_simp
          constructor
          · rfl
          · rfl
        have hb := below_alloc (Below.refl z0.heap.size z0) (.cells #[.string ⟨#[]⟩, .int .i64 0, .int .i64 0, .int .i64 0, .slice none 0 0] 28)
        have B_n0 := heap_alloc_new z0 (.cells #[.string ⟨#[]⟩, .int .i64 0, .int .i64 0, .int .i64 0, .slice none 0 0] 28)
        have hgy0 := HZ.size
        replace HB := below_step HB hb
        replace B_r := blk_below B_r hb
        replace B_8 := blk_below B_8 hb
        replace B_9 := blk_below B_9 hb
        replace B_b := blk_below B_b hb
        replace B_c := blk_below B_c hb
        replace F_x := Kd.F_below F_x hb
        replace F_y := Kd.F_below F_y hb
        replace F_c := Kd.F_below F_c hb
        replace HZ := below_step HZ hb
        clear hb
        have B_n := B_n0
        clear B_n0
        refine hK.out _ _ ⟨(blk_cell B_r 0).trans rfl, (blk_cell B_8 0).trans rfl, (blk_cell B_8 1).trans rfl, (blk_cell B_8 2).trans rfl, (blk_cell B_8 3).trans rfl, (blk_cell B_9 0).trans rfl, (blk_cell B_9 1).trans rfl, (blk_cell B_9 2).trans rfl, (blk_cell B_9 3).trans rfl⟩ (fun hHeld => ?_)
        clear hK K
        refine norm_ (a' := ?_) ?_ ?_
        rotate_left
        · show Act.put _ (some 14) _ = _
          simp only [Act.put, List.setIfInBounds_toArray, List.set_cons_zero, List.set_cons_succ, i64_w, i32_w]
          rfl
        obtain ⟨gn, hgn_⟩ : ∃ gn, gn = z0.heap.size := ⟨_, rfl⟩
        have hgy : Aside0 (z0.heap.size ≤ gn) := ⟨by omega⟩
        rw [← hgn_] at B_n ⊢
        clear hgn_ hgy0
        generalize z0.alloc (.cells #[.string ⟨#[]⟩, .int .i64 0, .int .i64 0, .int .i64 0, .slice none 0 0] 28) = z1 at *
        refine one_ (i := 2) (N := some 51) #[true, true, true, true, true, false, false, false, false, false, true, false, false] rfl rfl (by kernel_rfl) (by decide) (fun K hK => ?_)
        refine goesF_ Try.func38 (by kernel_rfl) rfl #[.agg #[.int .i64 x.f0, .int .i64 x.f1, .string x.f2, .slice A1 x.f3.length c1], .pointer (some ⟨w.heap.size, 0, none⟩), .pointer (some ⟨gr, 0, none⟩)] (.tmp 49) #[] #[.pointer (some ⟨w.heap.size, 0, none⟩), .pointer (some ⟨gr, 0, none⟩)] (by rfl) rfl rfl rfl (by (try simp only [List.map_toArray, List.map_cons, List.map_nil]); first | done | rfl) ?_
        refine (rename_calls 1000 (by omega) by_ _ gr x (by have := hsx.out; omega) A1 c1 _ (Kd.F_now F_x) hc1.out B_b B_r).mono ?_
        rintro e z2 ⟨Ap, cp, rfl, hcp, F_p, hb⟩
        refine ⟨_, rfl, ?_⟩
        replace HB := below_step HB hb
        replace B_r := blk_below B_r hb
        replace B_8 := blk_below B_8 hb
        replace B_9 := blk_below B_9 hb
        replace B_b := blk_below B_b hb
        replace B_c := blk_below B_c hb
        replace B_n := blk_below B_n hb
        replace F_x := Kd.F_below F_x hb
        replace F_y := Kd.F_below F_y hb
        replace F_c := Kd.F_below F_c hb
        replace HZ := below_step HZ hb
        clear hb F_x
        replace hcp := Aside0.mk hcp
        refine hK.out _ _ ⟨(blk_cell B_r 0).trans rfl, (blk_cell B_8 0).trans rfl, (blk_cell B_8 1).trans rfl, (blk_cell B_8 2).trans rfl, (blk_cell B_8 3).trans rfl, (blk_cell B_9 0).trans rfl, (blk_cell B_9 1).trans rfl, (blk_cell B_9 2).trans rfl, (blk_cell B_9 3).trans rfl⟩ (fun hHeld => ?_)
        clear hK K
        refine norm_ (a' := ?_) ?_ ?_
        rotate_left
        · show Act.put _ (some 51) _ = _
          simp only [Act.put, List.setIfInBounds_toArray, List.set_cons_zero, List.set_cons_succ, i64_w, i32_w]
          rfl
        refine one_ (i := 5) (N := some 54) #[true, true, true, true, true, true, false, false, false, false, true, false, false] rfl rfl (by kernel_rfl) (by decide) (fun K hK => ?_)
        refine goesF_ Try.func38 (by kernel_rfl) rfl #[.agg #[.int .i64 y.f0, .int .i64 y.f1, .string y.f2, .slice A2 y.f3.length c2], .pointer (some ⟨w.heap.size, 0, none⟩), .pointer (some ⟨gr, 0, none⟩)] (.tmp 52) #[] #[.pointer (some ⟨w.heap.size, 0, none⟩), .pointer (some ⟨gr, 0, none⟩)] (by rfl) rfl rfl rfl (by (try simp only [List.map_toArray, List.map_cons, List.map_nil]); first | done | rfl) ?_
        refine (rename_calls 1000 (by omega) by_ _ gr y (by have := hsy.out; omega) A2 c2 _ (Kd.F_now F_y) hc2.out B_b B_r).mono ?_
        rintro e z3 ⟨Aq, cq, rfl, hcq, F_q, hb⟩
        refine ⟨_, rfl, ?_⟩
        replace HB := below_step HB hb
        replace B_r := blk_below B_r hb
        replace B_8 := blk_below B_8 hb
        replace B_9 := blk_below B_9 hb
        replace B_b := blk_below B_b hb
        replace B_c := blk_below B_c hb
        replace B_n := blk_below B_n hb
        replace F_y := Kd.F_below F_y hb
        replace F_c := Kd.F_below F_c hb
        replace F_p := Kd.F_below F_p hb
        replace HZ := below_step HZ hb
        clear hb F_y
        replace hcq := Aside0.mk hcq
        refine hK.out _ _ ⟨(blk_cell B_r 0).trans rfl, (blk_cell B_8 0).trans rfl, (blk_cell B_8 1).trans rfl, (blk_cell B_8 2).trans rfl, (blk_cell B_8 3).trans rfl, (blk_cell B_9 0).trans rfl, (blk_cell B_9 1).trans rfl, (blk_cell B_9 2).trans rfl, (blk_cell B_9 3).trans rfl⟩ (fun hHeld => ?_)
        clear hK K
        refine norm_ (a' := ?_) ?_ ?_
        rotate_left
        · show Act.put _ (some 54) _ = _
          simp only [Act.put, List.setIfInBounds_toArray, List.set_cons_zero, List.set_cons_succ, i64_w, i32_w]
          rfl
        refine one_ (i := 6) (N := some 55) #[true, true, true, true, true, true, true, false, false, false, true, false, false] rfl rfl (by kernel_rfl) (by decide) (fun K hK => ?_)
        refine goes_ Try.func41 (by kernel_rfl) rfl #[.agg #[.int .i64 (renT by_ x).f0, .int .i64 (renT by_ x).f1, .string (renT by_ x).f2, .slice Ap (renT by_ x).f3.length cp], .agg #[.int .i64 (renT by_ y).f0, .int .i64 (renT by_ y).f1, .string (renT by_ y).f2, .slice Aq (renT by_ y).f3.length cq]] (by rfl) rfl rfl (by (try simp only [List.map_toArray, List.map_cons, List.map_nil]); first | done | rfl) ?_
        refine (compile_calls (renT by_ x) (renT by_ y) (by rw [szT_ren]; have := hsx.out; omega) (by rw [szT_ren]; have := hsy.out; omega) Ap Aq cp cq _ (Kd.F_now F_p) (Kd.F_now F_q)).mono ?_
        rw [Hr_.out]
        rintro e z4 ⟨A4, c4, rfl, hc4, F_d, hb⟩
        refine ⟨_, rfl, ?_⟩
        have hln := blk_lt B_n
        replace F_d := Kd.F_mono F_d (ok' := fun k => k ≠ gn) (fun k hk => by omega)
        clear hln
        replace HB := below_step HB hb
        replace B_r := blk_below B_r hb
        replace B_8 := blk_below B_8 hb
        replace B_9 := blk_below B_9 hb
        replace B_b := blk_below B_b hb
        replace B_c := blk_below B_c hb
        replace B_n := blk_below B_n hb
        replace F_c := Kd.F_below F_c hb
        replace F_p := Kd.F_below F_p hb
        replace F_q := Kd.F_below F_q hb
        replace HZ := below_step HZ hb
        clear hb F_p F_q
        replace hc4 := Aside0.mk hc4
        refine hK.out _ _ ⟨(blk_cell B_r 0).trans rfl, (blk_cell B_8 0).trans rfl, (blk_cell B_8 1).trans rfl, (blk_cell B_8 2).trans rfl, (blk_cell B_8 3).trans rfl, (blk_cell B_9 0).trans rfl, (blk_cell B_9 1).trans rfl, (blk_cell B_9 2).trans rfl, (blk_cell B_9 3).trans rfl⟩ (fun hHeld => ?_)
        clear hK K
        refine norm_ (a' := ?_) ?_ ?_
        rotate_left
        · show Act.put _ (some 55) _ = _
          simp only [Act.put, List.setIfInBounds_toArray, List.set_cons_zero, List.set_cons_succ, i64_w, i32_w]
          rfl
        refine pure_ (i := 7) (N := some 48) (v := ?_) (a' := ?_) #[true, true, true, true, true, true, true, true, false, false, true, false, false] rfl rfl (by kernel_rfl) (fun _ _ _ h => h) (Or.inl ⟨by rfl, ?_⟩) ?_ ?_
        rotate_left
        · intro w'
          go_simp
          with_reducible rfl
        rotate_left
        · simp only [Act.put, List.setIfInBounds_toArray, List.set_cons_zero, List.set_cons_succ, i64_w, i32_w]
          rfl
        refine pure_ (i := 8) (N := some 56) (v := ?_) (a' := ?_) #[true, true, true, true, true, true, true, true, true, false, true, false, false] rfl rfl (by kernel_rfl) (fun _ _ _ h => h) (Or.inl ⟨by rfl, ?_⟩) ?_ ?_
        rotate_left
        · intro w'
          go_simp
          with_reducible rfl
        rotate_left
        · simp only [Act.put, List.setIfInBounds_toArray, List.set_cons_zero, List.set_cons_succ, i64_w, i32_w]
          rfl
        refine pure_ (i := 9) (N := some 57) (v := ?_) (a' := ?_) #[true, true, true, true, true, true, true, true, true, true, true, false, false] rfl rfl (by kernel_rfl) (fun _ _ _ h => h) (Or.inl ⟨by rfl, ?_⟩) ?_ ?_
        rotate_left
        · intro w'
          go_simp
          with_reducible rfl
        rotate_left
        · simp only [Act.put, List.setIfInBounds_toArray, List.set_cons_zero, List.set_cons_succ, i64_w, i32_w]
          rfl
        refine last_ (i := 11) (N := none) #[true, true, true, true, true, true, true, true, true, true, true, true, false] rfl rfl (by kernel_rfl) (by decide) (fun K hK => ?_)
        refine skip_ (by rfl) rfl (w1 := ?_) ?_ ?_
        rotate_left
        · have z0 := blk_frozen B_n 0
          have z1 := blk_frozen B_n 1
          have z2 := blk_frozen B_n 2
          have z3 := blk_frozen B_n 3
          have z4 := blk_frozen B_n 4
          have y0 := (blk_cell B_n 0).trans rfl
          have y1 := (blk_cell B_n 1).trans rfl
          have y2 := (blk_cell B_n 2).trans rfl
          have y3 := (blk_cell B_n 3).trans rfl
          have y4 := (blk_cell B_n 4).trans rfl
          go_simp
          rfl
        refine hK.out _ _ ?_
        clear hK K
        refine pure_ (i := 12) (N := some 15) (v := ?_) (a' := ?_) #[true, true, true, true, true, true, true, true, true, true, true, true, true] rfl rfl (by kernel_rfl) (fun _ _ _ h => h) (Or.inl ⟨by rfl, ?_⟩) ?_ ?_
        rotate_left
        · intro w'
          go_simp
          with_reducible rfl
        rotate_left
        · simp only [Act.put, List.setIfInBounds_toArray, List.set_cons_zero, List.set_cons_succ, i64_w, i32_w]
          rfl
        refine done_ (by kernel_rfl) ?_
        have sm := set5 z4 gn (.string r.1.nm) (.int .i64 r.1.ar) (.int .i64 r.1.sl) (.int .i64 r.1.bd) (.slice A4 r.1.l.length c4)
        have sb := blk5 (.string r.1.nm) (.int .i64 r.1.ar) (.int .i64 r.1.sl) (.int .i64 r.1.bd) (.slice A4 r.1.l.length c4) B_n
        replace B_c := sm.blk B_c (by have := hl_c.out; have := hgy.out; omega)
        replace HB := sm.under HB (Nat.le_refl _) (fun k hk => by have := hl_w.out; have := hgy.out; omega)
        replace F_c := Kd.F_step F_c (fun q hq hl => sm.block q hl (by have := hq; have := hgy.out; omega))
        replace F_d := Kd.F_step F_d (fun q hq hl => sm.block q hl hq)
        clear sm B_n B_r B_8 B_9 B_b HZ hHeld
        generalize (((((z4.setCell ⟨gn, 0, none⟩ (.string r.1.nm)).setCell ⟨gn, 1, none⟩ (.int .i64 r.1.ar)).setCell ⟨gn, 2, none⟩ (.int .i64 r.1.sl)).setCell ⟨gn, 3, none⟩ (.int .i64 r.1.bd)).setCell ⟨gn, 4, none⟩ (.slice A4 r.1.l.length c4)) = y1 at *
        replace sb := Aside0.mk sb
        replace B_c := Aside0.mk B_c
        replace HB := Aside0.mk HB
        replace F_c := Aside0.mk F_c
        replace F_d := Aside0.mk F_d
        go_wp2_with fail
        replace sb := sb.out
        replace B_c := B_c.out
        replace HB := HB.out
        replace F_c := F_c.out
        replace F_d := F_d.out
        have B_n := sb
        clear sb
        refine start_ (n := 11) (S := fun w' => w'.cell? ⟨w10.heap.size, 0, none⟩ = some (.string r.1.nm) ∧ w'.cell? ⟨w10.heap.size, 1, none⟩ = some (.int .i64 r.1.ar) ∧ w'.cell? ⟨w10.heap.size, 2, none⟩ = some (.int .i64 r.1.sl) ∧ w'.cell? ⟨w10.heap.size, 3, none⟩ = some (.int .i64 r.1.bd) ∧ w'.cell? ⟨w10.heap.size, 4, none⟩ = some (.slice A3 r.1.l.length c3) ∧ w'.cell? ⟨gn, 0, none⟩ = some (.string r.1.nm) ∧ w'.cell? ⟨gn, 1, none⟩ = some (.int .i64 r.1.ar) ∧ w'.cell? ⟨gn, 2, none⟩ = some (.int .i64 r.1.sl) ∧ w'.cell? ⟨gn, 3, none⟩ = some (.int .i64 r.1.bd) ∧ w'.cell? ⟨gn, 4, none⟩ = some (.slice A4 r.1.l.length c4)) (ds := []) #[false, false, false, false, false, false, false, false, false, false, false] (by kernel_rfl) rfl rfl ⟨(blk_cell (blk_drew B_c) 0).trans rfl, (blk_cell (blk_drew B_c) 1).trans rfl, (blk_cell (blk_drew B_c) 2).trans rfl, (blk_cell (blk_drew B_c) 3).trans rfl, (blk_cell (blk_drew B_c) 4).trans rfl, (blk_cell (blk_drew B_n) 0).trans rfl, (blk_cell (blk_drew B_n) 1).trans rfl, (blk_cell (blk_drew B_n) 2).trans rfl, (blk_cell (blk_drew B_n) 3).trans rfl, (blk_cell (blk_drew B_n) 4).trans rfl⟩ (fun hHeld => ?_)
        replace B_c := blk_drew B_c
        replace B_n := blk_drew B_n
        replace HB := HB.drew
        replace F_c := Kd.F_drew F_c
        replace F_d := Kd.F_drew F_d
        generalize y1.drew = v0 at *
        refine pure_ (i := 0) (N := some 58) (v := ?_) (a' := ?_) #[true, false, false, false, false, false, false, false, false, false, false] rfl rfl (by kernel_rfl) (fun _ _ _ h => h) (Or.inl ⟨by rfl, ?_⟩) ?_ ?_
        rotate_left
        · intro w'
          go_simp
          with_reducible rfl
        rotate_left
        · simp only [Act.put, List.setIfInBounds_toArray, List.set_cons_zero, List.set_cons_succ, i64_w, i32_w]
          rfl
        refine pure_ (i := 1) (N := some 59) (v := ?_) (a' := ?_) #[true, true, false, false, false, false, false, false, false, false, false] rfl rfl (by kernel_rfl) (fun _ _ _ h => h) (Or.inl ⟨by rfl, ?_⟩) ?_ ?_
        rotate_left
        · intro w'
          go_simp
          with_reducible rfl
        rotate_left
        · simp only [Act.put, List.setIfInBounds_toArray, List.set_cons_zero, List.set_cons_succ, i64_w, i32_w]
          rfl
        refine pure_ (i := 2) (N := some 60) (v := ?_) (a' := ?_) #[true, true, true, false, false, false, false, false, false, false, false] rfl rfl (by kernel_rfl) (fun _ _ _ h => h) (Or.inl ⟨by rfl, ?_⟩) ?_ ?_
        rotate_left
        · intro w'
          go_simp
          with_reducible rfl
        rotate_left
        · simp only [Act.put, List.setIfInBounds_toArray, List.set_cons_zero, List.set_cons_succ, i64_w, i32_w]
          rfl
        refine pure_ (i := 3) (N := some 61) (v := ?_) (a' := ?_) #[true, true, true, true, false, false, false, false, false, false, false] rfl rfl (by kernel_rfl) (fun _ _ _ h => h) (Or.inl ⟨by rfl, ?_⟩) ?_ ?_
        rotate_left
        · intro w'
          go_simp
          with_reducible rfl
        rotate_left
        · simp only [Act.put, List.setIfInBounds_toArray, List.set_cons_zero, List.set_cons_succ, i64_w, i32_w]
          rfl
        refine take_ (i := 4) (N := some 62) (v := ?_) (a' := ?_) #[true, true, true, true, true, false, false, false, false, false, false] rfl rfl (by kernel_rfl) (fun _ _ _ h => h) (Or.inl ⟨by rfl, ?_⟩) hHeld ?_ ?_
        rotate_left
        · rintro w' ⟨s0, s1, s2, s3, s4, s5, s6, s7, s8, s9⟩
          go_simp
          with_reducible rfl
        rotate_left
        · simp only [Act.put, List.setIfInBounds_toArray, List.set_cons_zero, List.set_cons_succ, i64_w, i32_w]
          rfl
        refine take_ (i := 6) (N := some 64) (v := ?_) (a' := ?_) #[true, true, true, true, true, false, true, false, false, false, false] rfl rfl (by kernel_rfl) (fun _ _ _ h => h) (Or.inl ⟨by rfl, ?_⟩) hHeld ?_ ?_
        rotate_left
        · rintro w' ⟨s0, s1, s2, s3, s4, s5, s6, s7, s8, s9⟩
          go_simp
          with_reducible rfl
        rotate_left
        · simp only [Act.put, List.setIfInBounds_toArray, List.set_cons_zero, List.set_cons_succ, i64_w, i32_w]
          rfl
        refine one_ (i := 5) (N := some 63) #[true, true, true, true, true, true, true, false, false, false, false] rfl rfl (by kernel_rfl) (by decide) (fun K hK => ?_)
        refine goes_ Try.func22 (by kernel_rfl) rfl #[.agg #[.string r.1.nm, .int .i64 r.1.ar, .int .i64 r.1.sl, .int .i64 r.1.bd, .slice A3 r.1.l.length c3]] (by rfl) rfl rfl (by (try simp only [List.map_toArray, List.map_cons, List.map_nil]); first | done | rfl) ?_
        refine (from_calls r.1 hrl.out A3 c3 _ (Kd.F_now F_c) hc3.out).mono ?_
        rintro e v1 ⟨A5, c5, rfl, hc5, hC5, hb⟩
        refine ⟨_, rfl, ?_⟩
        replace HB := below_step HB hb
        replace B_c := blk_below B_c hb
        replace B_n := blk_below B_n hb
        replace F_c := Kd.F_below F_c hb
        replace F_d := Kd.F_below F_d hb
        clear hb
        refine hK.out _ _ ⟨(blk_cell B_c 0).trans rfl, (blk_cell B_c 1).trans rfl, (blk_cell B_c 2).trans rfl, (blk_cell B_c 3).trans rfl, (blk_cell B_c 4).trans rfl, (blk_cell B_n 0).trans rfl, (blk_cell B_n 1).trans rfl, (blk_cell B_n 2).trans rfl, (blk_cell B_n 3).trans rfl, (blk_cell B_n 4).trans rfl⟩ (fun hHeld => ?_)
        clear hK K
        refine norm_ (a' := ?_) ?_ ?_
        rotate_left
        · show Act.put _ (some 63) _ = _
          simp only [Act.put, List.setIfInBounds_toArray, List.set_cons_zero, List.set_cons_succ, i64_w, i32_w]
          rfl
        clear F_c
        refine one_ (i := 7) (N := some 65) #[true, true, true, true, true, true, true, true, false, false, false] rfl rfl (by kernel_rfl) (by decide) (fun K hK => ?_)
        refine goes_ Try.func22 (by kernel_rfl) rfl #[.agg #[.string r.1.nm, .int .i64 r.1.ar, .int .i64 r.1.sl, .int .i64 r.1.bd, .slice A4 r.1.l.length c4]] (by rfl) rfl rfl (by (try simp only [List.map_toArray, List.map_cons, List.map_nil]); first | done | rfl) ?_
        refine (from_calls r.1 hrl.out A4 c4 _ (Kd.F_now F_d) hc4.out).mono ?_
        rintro e v2 ⟨A6, c6, rfl, hc6, hC6, hb⟩
        refine ⟨_, rfl, ?_⟩
        replace HB := below_step HB hb
        replace B_c := blk_below B_c hb
        replace B_n := blk_below B_n hb
        replace F_d := Kd.F_below F_d hb
        replace hC5 := Kd.C_below hC5 hb
        clear hb
        refine hK.out _ _ ⟨(blk_cell B_c 0).trans rfl, (blk_cell B_c 1).trans rfl, (blk_cell B_c 2).trans rfl, (blk_cell B_c 3).trans rfl, (blk_cell B_c 4).trans rfl, (blk_cell B_n 0).trans rfl, (blk_cell B_n 1).trans rfl, (blk_cell B_n 2).trans rfl, (blk_cell B_n 3).trans rfl, (blk_cell B_n 4).trans rfl⟩ (fun hHeld => ?_)
        clear hK K
        refine norm_ (a' := ?_) ?_ ?_
        rotate_left
        · show Act.put _ (some 65) _ = _
          simp only [Act.put, List.setIfInBounds_toArray, List.set_cons_zero, List.set_cons_succ, i64_w, i32_w]
          rfl
        clear F_d
        refine one_ (i := 8) (N := some 66) #[true, true, true, true, true, true, true, true, true, false, false] rfl rfl (by kernel_rfl) (by decide) (fun K hK => ?_)
        refine goes_ Try.func21 (by kernel_rfl) rfl #[.agg #[.string r.1.nm, .int .i64 r.1.ar, .int .i64 r.1.sl, .int .i64 r.1.bd, .slice A5 (r.1.l.map vnoc).length c5], .agg #[.string r.1.nm, .int .i64 r.1.ar, .int .i64 r.1.sl, .int .i64 r.1.bd, .slice A6 (r.1.l.map vnoc).length c6]] (by rfl) rfl rfl (by (try simp only [List.map_toArray, List.map_cons, List.map_nil]); first | done | rfl) ?_
        refine (same18_calls r.1.nm r.1.ar r.1.sl r.1.bd (r.1.l.map vnoc) (by rw [List.length_map]; exact hrl.out) A5 A6 c5 c6 _ hC5 hc5 hC6 hc6).mono ?_
        rintro e v3 ⟨rfl, hb⟩
        refine ⟨_, rfl, ?_⟩
        replace HB := below_step HB hb
        replace B_c := blk_below B_c hb
        replace B_n := blk_below B_n hb
        clear hb
        refine hK.out _ _ ⟨(blk_cell B_c 0).trans rfl, (blk_cell B_c 1).trans rfl, (blk_cell B_c 2).trans rfl, (blk_cell B_c 3).trans rfl, (blk_cell B_c 4).trans rfl, (blk_cell B_n 0).trans rfl, (blk_cell B_n 1).trans rfl, (blk_cell B_n 2).trans rfl, (blk_cell B_n 3).trans rfl, (blk_cell B_n 4).trans rfl⟩ (fun hHeld => ?_)
        clear hK K
        refine norm_ (a' := ?_) ?_ ?_
        rotate_left
        · show Act.put _ (some 66) _ = _
          simp only [Act.put, List.setIfInBounds_toArray, List.set_cons_zero, List.set_cons_succ, i64_w, i32_w]
          rfl
        refine pure_ (i := 9) (N := some 67) (v := ?_) (a' := ?_) #[true, true, true, true, true, true, true, true, true, true, false] rfl rfl (by kernel_rfl) (fun _ _ _ h => h) (Or.inl ⟨by rfl, ?_⟩) ?_ ?_
        rotate_left
        · intro w'
          go_simp
          with_reducible rfl
        rotate_left
        · simp only [Act.put, List.setIfInBounds_toArray, List.set_cons_zero, List.set_cons_succ, i64_w, i32_w]
          rfl
        refine pure_ (i := 10) (N := some 6) (v := ?_) (a' := ?_) #[true, true, true, true, true, true, true, true, true, true, true] rfl rfl (by kernel_rfl) (fun _ _ _ h => h) (Or.inl ⟨by rfl, ?_⟩) ?_ ?_
        rotate_left
        · intro w'
          go_simp
          with_reducible rfl
        rotate_left
        · simp only [Act.put, List.setIfInBounds_toArray, List.set_cons_zero, List.set_cons_succ, i64_w, i32_w]
          rfl
        refine done_ (by kernel_rfl) ?_
        replace HB := Aside0.mk HB
        clear hHeld
        go_wp2_with fail
        go_ret
        exact ⟨rfl, HB.out⟩
end Go.Proofs.Ythdnaliahdohhaa.H
