-- printed by a program of this session (wip/tools/pp.py) that runs the kit's printer over contracts proved by hand
import Derived.Test.YthdnaliahdohhaaCx0
namespace Go.Proofs.Ythdnaliahdohhaa.C
open Go.RowKit Go.Proofs.YthdnaliahdohhaaW.PrintWords Go.Proofs.YthdnaliahdohhaaW.PrintLast Go.Proofs.YthdnaliahdohhaaW.PrintMore
attribute [local go_sem] max2_int min2_int max_two min_two max_three min_three max_four min_four   -- for this text's walks alone
set_option linter.unusedVariables false
set_option linter.unusedSimpArgs false

/-! ### prolixref18_zero: function 64 -/
def prolixref18_zero.j0 : Nat → Int → Bool → Int → Int → Int → ByteArray → Option (Bool)
  | 0, _, _, _, _, _, _ => none
  | k + 1, x4, x20, x138000, x138001, x138002, x138003 => if x20 = true then (if x138002 = 0 then (some (x138003.toList == ([] : List UInt8))) else (some false)) else (if x4 = 4 then (if x138001 = 0 then (some (x138003.toList == ([] : List UInt8))) else (some false)) else (if x4 = 5 then (if x138001 = 0 then (if x138002 = 0 then (some (decide ((x138003.size : Int) ≤ 1000))) else (some false)) else (some false)) else (if x138002 = 0 then (some (decide ((x138003.size : Int) ≤ 1000))) else (some false))))
def prolixref18_zero.f (k : Nat) (a0_0 : Int) (a0_1 : Int) (a0_2 : Int) (a0_3 : ByteArray) : Option (Bool) := if a0_0 = 1 then (if a0_1 = 0 then (if a0_2 = 0 then (some (a0_3.toList == ([] : List UInt8))) else (some false)) else (some false)) else (if a0_0 = 2 then (prolixref18_zero.j0 k a0_0 (a0_0 == 2) a0_0 a0_1 a0_2 a0_3) else (prolixref18_zero.j0 k a0_0 (a0_0 == 3) a0_0 a0_1 a0_2 a0_3))
theorem prolixref18_zero.mono_l : ∀ k, (∀ y0 y1 y2 y3 y4 y5, LeO (prolixref18_zero.j0 k y0 y1 y2 y3 y4 y5) (prolixref18_zero.j0 (k + 1) y0 y1 y2 y3 y4 y5))
  | 0 => fun _ _ _ _ _ _ r h => by simp [prolixref18_zero.j0] at h
  | k + 1 => by
    have ih0 := prolixref18_zero.mono_l k
    · intro y0 y1 y2 y3 y4 y5
      unfold prolixref18_zero.j0
      repeat' first
      | (with_reducible exact ih0 _ _ _ _ _ _)
      | (with_reducible exact LeO.refl _)
      | (with_reducible exact LeO.none _)
      | (with_reducible refine LeO.ite ?_ ?_)
      | (with_reducible refine LeO.bind ?_ (fun _ => ?_))
      | exact ih0 _ _ _ _ _ _
      | exact LeO.none _
      | refine LeO.ite ?_ ?_
      | refine LeO.bind ?_ (fun _ => ?_)
theorem prolixref18_zero.mono : ∀ a0 a1 a2 a3 k, LeO (prolixref18_zero.f k a0 a1 a2 a3) (prolixref18_zero.f (k + 1) a0 a1 a2 a3) := by
  intro a0 a1 a2 a3 k
  have ih0 := prolixref18_zero.mono_l k
  unfold prolixref18_zero.f
  repeat' first
      | (with_reducible exact ih0 _ _ _ _ _ _)
      | (with_reducible exact LeO.refl _)
      | (with_reducible exact LeO.none _)
      | (with_reducible refine LeO.ite ?_ ?_)
      | (with_reducible refine LeO.bind ?_ (fun _ => ?_))
      | exact ih0 _ _ _ _ _ _
      | exact LeO.none _
      | refine LeO.ite ?_ ?_
      | refine LeO.bind ?_ (fun _ => ?_)
set_option maxHeartbeats 8000000 in
set_option maxRecDepth 100000 in
theorem prolixref18_zero.calls (k : Nat) (a0_0 : Int) (a0_1 : Int) (a0_2 : Int) (a0_3 : ByteArray) (r : Bool) (w : World) (h : prolixref18_zero.f k a0_0 a0_1 a0_2 a0_3 = some r) :
    Calls Try.prog 64 #[.agg #[.int .i64 a0_0, .int .i64 a0_1, .int .i64 a0_2, .string a0_3]] w fun e w' => e = .returned (.bool r) ∧ Below w.heap.size w w' := by
  have hu89 := Try.underlying89
  have HB := Aside0.mk (Below.refl w.heap.size w)
  have H : (if a0_0 = 1 then (if a0_1 = 0 then (if a0_2 = 0 then (some (a0_3.toList == ([] : List UInt8))) else (some false)) else (some false)) else (if a0_0 = 2 then (prolixref18_zero.j0 k a0_0 (a0_0 == 2) a0_0 a0_1 a0_2 a0_3) else (prolixref18_zero.j0 k a0_0 (a0_0 == 3) a0_0 a0_1 a0_2 a0_3))) = some r := h
  clear h
  by_cases c2 : a0_0 = 1
  · rw [if_pos c2] at H
    have c2b0 : (a0_0 == 1) = true := beq_iff_eq.mpr c2
    have c2b1 : (a0_0 != 1) = false := bne_eq_false_iff_eq.mpr c2
    clear c2
    by_cases c3 : a0_1 = 0
    · rw [if_pos c3] at H
      have c3b0 : (a0_1 == 0) = true := beq_iff_eq.mpr c3
      have c3b1 : (a0_1 != 0) = false := bne_eq_false_iff_eq.mpr c3
      clear c3
      by_cases c4 : a0_2 = 0
      · rw [if_pos c4] at H
        have c4b0 : (a0_2 == 0) = true := beq_iff_eq.mpr c4
        have c4b1 : (a0_2 != 0) = false := bne_eq_false_iff_eq.mpr c4
        clear c4
        obtain rfl := Option.some.inj H
        go_enter Try.func64, Try.ntmps64
        go_wp2_with (first | ((with_reducible refine gate_dst (N := 1) rfl ?_); (try (refine gate_guard (by rfl) ?_; dsimp only)); refine box_event ?hg (N := 1) ?hd (cs := #[.int .i64 a0_0, .int .i64 a0_1, .int .i64 a0_2, .string a0_3]) (t := 89) ?hr ?_; (case hd => rfl); (case hg => rfl); (case hr => first | (go_simp; done) | (go_simp; rfl)); intro gb137 hg w5 hbox hb; have n0_ := Aside0.mk (below_step (by repeat (first | (with_reducible first | exact HB.out | apply below_alloc | apply pw_below_drewN | apply below_drew1) | exact HB.out)) hb); have n1_ := Aside0.mk (hbox); have n2_ := Aside0.mk ((by rw [hg]; exact (below_size (by repeat (first | (with_reducible first | exact HB.out | apply below_alloc | apply pw_below_drewN | apply below_drew1) | exact HB.out))) : w.heap.size ≤ gb137)); have n3_ := Aside0.mk ((by rw [hg]; exact (below_size (by repeat (first | (with_reducible first | exact HB.out | apply below_alloc | apply pw_below_drewN | apply below_drew1) | exact HB.out))) : w.heap.size ≤ gb137)); clear HB; have HB := n0_; have BK137 := n1_; have GW137 := n2_; have GE137 := n3_; clear n0_ n1_ n2_ n3_; clear hb hbox hg; have hcz6_0 : w5.cell? ⟨gb137, 0, none⟩ = some (.int .i64 a0_0) := (blk_cell BK137.out 0).trans rfl; have hcz6_1 : w5.cell? ⟨gb137, 1, none⟩ = some (.int .i64 a0_1) := (blk_cell BK137.out 1).trans rfl; have hcz6_2 : w5.cell? ⟨gb137, 2, none⟩ = some (.int .i64 a0_2) := (blk_cell BK137.out 2).trans rfl; have hcz6_3 : w5.cell? ⟨gb137, 3, none⟩ = some (.string a0_3) := (blk_cell BK137.out 3).trans rfl; have hfz6_0 := blk_frozen BK137.out 0; have hfz6_1 := blk_frozen BK137.out 1; have hfz6_2 := blk_frozen BK137.out 2; have hfz6_3 := blk_frozen BK137.out 3))
        go_ret
        exact ⟨by first | rfl | (simp [errW_none, errW_some] <;> rfl) | (simp [*, errW_none, errW_some] <;> rfl), by repeat (first | (with_reducible first | exact HB.out | apply below_alloc | apply pw_below_drewN | apply below_drew1 | refine below_set ?_ GE137.out) | exact HB.out)⟩
      · rw [if_neg c4] at H
        have c4b0 : (a0_2 == 0) = false := beq_eq_false_iff_ne.mpr c4
        have c4b1 : (a0_2 != 0) = true := bne_iff_ne.mpr c4
        obtain rfl := Option.some.inj H
        go_enter Try.func64, Try.ntmps64
        go_wp2_with (first | ((with_reducible refine gate_dst (N := 1) rfl ?_); (try (refine gate_guard (by rfl) ?_; dsimp only)); refine box_event ?hg (N := 1) ?hd (cs := #[.int .i64 a0_0, .int .i64 a0_1, .int .i64 a0_2, .string a0_3]) (t := 89) ?hr ?_; (case hd => rfl); (case hg => rfl); (case hr => first | (go_simp; done) | (go_simp; rfl)); intro gb137 hg w7 hbox hb; have n0_ := Aside0.mk (below_step (by repeat (first | (with_reducible first | exact HB.out | apply below_alloc | apply pw_below_drewN | apply below_drew1) | exact HB.out)) hb); have n1_ := Aside0.mk (hbox); have n2_ := Aside0.mk ((by rw [hg]; exact (below_size (by repeat (first | (with_reducible first | exact HB.out | apply below_alloc | apply pw_below_drewN | apply below_drew1) | exact HB.out))) : w.heap.size ≤ gb137)); have n3_ := Aside0.mk ((by rw [hg]; exact (below_size (by repeat (first | (with_reducible first | exact HB.out | apply below_alloc | apply pw_below_drewN | apply below_drew1) | exact HB.out))) : w.heap.size ≤ gb137)); clear HB; have HB := n0_; have BK137 := n1_; have GW137 := n2_; have GE137 := n3_; clear n0_ n1_ n2_ n3_; clear hb hbox hg; have hcz8_0 : w7.cell? ⟨gb137, 0, none⟩ = some (.int .i64 a0_0) := (blk_cell BK137.out 0).trans rfl; have hcz8_1 : w7.cell? ⟨gb137, 1, none⟩ = some (.int .i64 a0_1) := (blk_cell BK137.out 1).trans rfl; have hcz8_2 : w7.cell? ⟨gb137, 2, none⟩ = some (.int .i64 a0_2) := (blk_cell BK137.out 2).trans rfl; have hcz8_3 : w7.cell? ⟨gb137, 3, none⟩ = some (.string a0_3) := (blk_cell BK137.out 3).trans rfl; have hfz8_0 := blk_frozen BK137.out 0; have hfz8_1 := blk_frozen BK137.out 1; have hfz8_2 := blk_frozen BK137.out 2; have hfz8_3 := blk_frozen BK137.out 3))
        go_ret
        exact ⟨by first | rfl | (simp [errW_none, errW_some] <;> rfl) | (simp [*, errW_none, errW_some] <;> rfl), by repeat (first | (with_reducible first | exact HB.out | apply below_alloc | apply pw_below_drewN | apply below_drew1 | refine below_set ?_ GE137.out) | exact HB.out)⟩
    · rw [if_neg c3] at H
      have c3b0 : (a0_1 == 0) = false := beq_eq_false_iff_ne.mpr c3
      have c3b1 : (a0_1 != 0) = true := bne_iff_ne.mpr c3
      obtain rfl := Option.some.inj H
      go_enter Try.func64, Try.ntmps64
      go_wp2_with (first | ((with_reducible refine gate_dst (N := 1) rfl ?_); (try (refine gate_guard (by rfl) ?_; dsimp only)); refine box_event ?hg (N := 1) ?hd (cs := #[.int .i64 a0_0, .int .i64 a0_1, .int .i64 a0_2, .string a0_3]) (t := 89) ?hr ?_; (case hd => rfl); (case hg => rfl); (case hr => first | (go_simp; done) | (go_simp; rfl)); intro gb137 hg w9 hbox hb; have n0_ := Aside0.mk (below_step (by repeat (first | (with_reducible first | exact HB.out | apply below_alloc | apply pw_below_drewN | apply below_drew1) | exact HB.out)) hb); have n1_ := Aside0.mk (hbox); have n2_ := Aside0.mk ((by rw [hg]; exact (below_size (by repeat (first | (with_reducible first | exact HB.out | apply below_alloc | apply pw_below_drewN | apply below_drew1) | exact HB.out))) : w.heap.size ≤ gb137)); have n3_ := Aside0.mk ((by rw [hg]; exact (below_size (by repeat (first | (with_reducible first | exact HB.out | apply below_alloc | apply pw_below_drewN | apply below_drew1) | exact HB.out))) : w.heap.size ≤ gb137)); clear HB; have HB := n0_; have BK137 := n1_; have GW137 := n2_; have GE137 := n3_; clear n0_ n1_ n2_ n3_; clear hb hbox hg; have hcz10_0 : w9.cell? ⟨gb137, 0, none⟩ = some (.int .i64 a0_0) := (blk_cell BK137.out 0).trans rfl; have hcz10_1 : w9.cell? ⟨gb137, 1, none⟩ = some (.int .i64 a0_1) := (blk_cell BK137.out 1).trans rfl; have hcz10_2 : w9.cell? ⟨gb137, 2, none⟩ = some (.int .i64 a0_2) := (blk_cell BK137.out 2).trans rfl; have hcz10_3 : w9.cell? ⟨gb137, 3, none⟩ = some (.string a0_3) := (blk_cell BK137.out 3).trans rfl; have hfz10_0 := blk_frozen BK137.out 0; have hfz10_1 := blk_frozen BK137.out 1; have hfz10_2 := blk_frozen BK137.out 2; have hfz10_3 := blk_frozen BK137.out 3))
      go_ret
      exact ⟨by first | rfl | (simp [errW_none, errW_some] <;> rfl) | (simp [*, errW_none, errW_some] <;> rfl), by repeat (first | (with_reducible first | exact HB.out | apply below_alloc | apply pw_below_drewN | apply below_drew1 | refine below_set ?_ GE137.out) | exact HB.out)⟩
  · rw [if_neg c2] at H
    have c2b0 : (a0_0 == 1) = false := beq_eq_false_iff_ne.mpr c2
    have c2b1 : (a0_0 != 1) = true := bne_iff_ne.mpr c2
    have HC11 := Aside0.mk H
    clear H
    go_enter Try.func64, Try.ntmps64
    go_upto_if 20 with (first | ((with_reducible refine gate_dst (N := 1) rfl ?_); (try (refine gate_guard (by rfl) ?_; dsimp only)); refine box_event ?hg (N := 1) ?hd (cs := #[.int .i64 a0_0, .int .i64 a0_1, .int .i64 a0_2, .string a0_3]) (t := 89) ?hr ?_; (case hd => rfl); (case hg => rfl); (case hr => first | (go_simp; done) | (go_simp; rfl)); intro gb137 hg w12 hbox hb; have n0_ := Aside0.mk (below_step (by repeat (first | (with_reducible first | exact HB.out | apply below_alloc | apply pw_below_drewN | apply below_drew1) | exact HB.out)) hb); have n1_ := Aside0.mk (hbox); have n2_ := Aside0.mk ((by rw [hg]; exact (below_size (by repeat (first | (with_reducible first | exact HB.out | apply below_alloc | apply pw_below_drewN | apply below_drew1) | exact HB.out))) : w.heap.size ≤ gb137)); have n3_ := Aside0.mk ((by rw [hg]; exact (below_size (by repeat (first | (with_reducible first | exact HB.out | apply below_alloc | apply pw_below_drewN | apply below_drew1) | exact HB.out))) : w.heap.size ≤ gb137)); clear HB; have HB := n0_; have BK137 := n1_; have GW137 := n2_; have GE137 := n3_; clear n0_ n1_ n2_ n3_; clear hb hbox hg; have hcz13_0 : w12.cell? ⟨gb137, 0, none⟩ = some (.int .i64 a0_0) := (blk_cell BK137.out 0).trans rfl; have hcz13_1 : w12.cell? ⟨gb137, 1, none⟩ = some (.int .i64 a0_1) := (blk_cell BK137.out 1).trans rfl; have hcz13_2 : w12.cell? ⟨gb137, 2, none⟩ = some (.int .i64 a0_2) := (blk_cell BK137.out 2).trans rfl; have hcz13_3 : w12.cell? ⟨gb137, 3, none⟩ = some (.string a0_3) := (blk_cell BK137.out 3).trans rfl; have hfz13_0 := blk_frozen BK137.out 0; have hfz13_1 := blk_frozen BK137.out 1; have hfz13_2 := blk_frozen BK137.out 2; have hfz13_3 := blk_frozen BK137.out 3))
    (try simp only [Act.put, List.setIfInBounds_toArray, List.set_cons_zero, List.set_cons_succ])
    go_cut [20] (fun v20 wc => ∃ (kq : Nat) (x20_10 : Bool), v20 = .bool x20_10 ∧ Aside0 (prolixref18_zero.j0 kq a0_0 x20_10 a0_0 a0_1 a0_2 a0_3 = some r) ∧ Aside0 (kq ≤ k) ∧ Aside0 (wc.heap[gb137]? = some (.cells #[.int .i64 a0_0, .int .i64 a0_1, .int .i64 a0_2, .string a0_3] 89 (0, 0))) ∧ Aside0 (Below w.heap.size w wc))
    case first =>
      have H := HC11.out
      clear HC11
      by_cases c14 : a0_0 = 2
      · rw [if_pos c14] at H
        have c14b0 : (a0_0 == 2) = true := beq_iff_eq.mpr c14
        have c14b1 : (a0_0 != 2) = false := bne_eq_false_iff_eq.mpr c14
        clear c14
        (first | rw [c14b0] | (simp only [i64_w, i32_w]; rw [c14b0]) | skip)
        have H' := Aside0.mk H
        clear H
        go_wp2
        go_meet
        case rel => exact ⟨_, ((a0_0 == 2)), (by first | rfl | (simp; done) | (simp [*]; done)), H', ⟨by first | omega | exact Nat.le_refl _⟩, ⟨by (with_reducible repeat (first | refine blk_drewN ?_ _ | refine blk_drew ?_ | refine blk_alloc ?_ _)); exact BK137.out⟩, ⟨by repeat (first | (with_reducible first | exact HB.out | apply below_alloc | apply pw_below_drewN | apply below_drew1 | refine below_set ?_ GE137.out) | exact HB.out)⟩⟩
      · rw [if_neg c14] at H
        have c14b0 : (a0_0 == 2) = false := beq_eq_false_iff_ne.mpr c14
        have c14b1 : (a0_0 != 2) = true := bne_iff_ne.mpr c14
        (first | rw [c14b0] | (simp only [i64_w, i32_w]; rw [c14b0]) | skip)
        have H' := Aside0.mk H
        clear H
        go_wp2
        go_meet
        case rel => exact ⟨_, ((a0_0 == 3)), (by first | rfl | (simp; done) | (simp [*]; done)), H', ⟨by first | omega | exact Nat.le_refl _⟩, ⟨by (with_reducible repeat (first | refine blk_drewN ?_ _ | refine blk_drew ?_ | refine blk_alloc ?_ _)); exact BK137.out⟩, ⟨by repeat (first | (with_reducible first | exact HB.out | apply below_alloc | apply pw_below_drewN | apply below_drew1 | refine below_set ?_ GE137.out) | exact HB.out)⟩⟩
    case rest =>
      clear HC11
      try clear c1
      try clear c2
      try clear c2b0
      try clear c2b1
      try clear p2
      try clear c3
      try clear c3b0
      try clear c3b1
      try clear c4
      try clear c4b0
      try clear c4b1
      try clear c6
      try clear c14
      try clear c14b0
      try clear c14b1
      try clear hcz10_0
      try clear hcz10_1
      try clear hcz10_2
      try clear hcz10_3
      try clear hcz13_0
      try clear hcz13_1
      try clear hcz13_2
      try clear hcz13_3
      try clear hcz6_0
      try clear hcz6_1
      try clear hcz6_2
      try clear hcz6_3
      try clear hcz8_0
      try clear hcz8_1
      try clear hcz8_2
      try clear hcz8_3
      try clear hfz10_0
      try clear hfz10_1
      try clear hfz10_2
      try clear hfz10_3
      try clear hfz13_0
      try clear hfz13_1
      try clear hfz13_2
      try clear hfz13_3
      try clear hfz6_0
      try clear hfz6_1
      try clear hfz6_2
      try clear hfz6_3
      try clear hfz8_0
      try clear hfz8_1
      try clear hfz8_2
      try clear hfz8_3
      obtain ⟨kq, x20_10, rfl, HA, HJ10, BK137, HB⟩ := hcut
      cases kq with
      | zero => exact absurd HA.out (by simp [prolixref18_zero.j0])
      | succ kj10 =>
        have H := HA.out
        clear HA
        simp only [prolixref18_zero.j0] at H
        by_cases c15 : x20_10 = true
        · subst c15
          have H1 : (if a0_2 = 0 then (some (a0_3.toList == ([] : List UInt8))) else (some false)) = some r := by rw [if_pos rfl] at H; exact H
          clear H
          have H := H1
          clear H1
          by_cases c16 : a0_2 = 0
          · rw [if_pos c16] at H
            have c16b0 : (a0_2 == 0) = true := beq_iff_eq.mpr c16
            have c16b1 : (a0_2 != 0) = false := bne_eq_false_iff_eq.mpr c16
            clear c16
            obtain rfl := Option.some.inj H
            have hcz17_0 : wc.cell? ⟨gb137, 0, none⟩ = some (.int .i64 a0_0) := (blk_cell BK137.out 0).trans rfl
            have hcz17_1 : wc.cell? ⟨gb137, 1, none⟩ = some (.int .i64 a0_1) := (blk_cell BK137.out 1).trans rfl
            have hcz17_2 : wc.cell? ⟨gb137, 2, none⟩ = some (.int .i64 a0_2) := (blk_cell BK137.out 2).trans rfl
            have hcz17_3 : wc.cell? ⟨gb137, 3, none⟩ = some (.string a0_3) := (blk_cell BK137.out 3).trans rfl
            have hfz17_0 := blk_frozen BK137.out 0
            have hfz17_1 := blk_frozen BK137.out 1
            have hfz17_2 := blk_frozen BK137.out 2
            have hfz17_3 := blk_frozen BK137.out 3
            go_wp2
            go_ret
            exact ⟨by first | rfl | (simp [errW_none, errW_some] <;> rfl) | (simp [*, errW_none, errW_some] <;> rfl), by repeat (first | (with_reducible first | exact HB.out | apply below_alloc | apply pw_below_drewN | apply below_drew1 | refine below_set ?_ GE137.out) | exact HB.out)⟩
          · rw [if_neg c16] at H
            have c16b0 : (a0_2 == 0) = false := beq_eq_false_iff_ne.mpr c16
            have c16b1 : (a0_2 != 0) = true := bne_iff_ne.mpr c16
            obtain rfl := Option.some.inj H
            have hcz18_0 : wc.cell? ⟨gb137, 0, none⟩ = some (.int .i64 a0_0) := (blk_cell BK137.out 0).trans rfl
            have hcz18_1 : wc.cell? ⟨gb137, 1, none⟩ = some (.int .i64 a0_1) := (blk_cell BK137.out 1).trans rfl
            have hcz18_2 : wc.cell? ⟨gb137, 2, none⟩ = some (.int .i64 a0_2) := (blk_cell BK137.out 2).trans rfl
            have hcz18_3 : wc.cell? ⟨gb137, 3, none⟩ = some (.string a0_3) := (blk_cell BK137.out 3).trans rfl
            have hfz18_0 := blk_frozen BK137.out 0
            have hfz18_1 := blk_frozen BK137.out 1
            have hfz18_2 := blk_frozen BK137.out 2
            have hfz18_3 := blk_frozen BK137.out 3
            go_wp2
            go_ret
            exact ⟨by first | rfl | (simp [errW_none, errW_some] <;> rfl) | (simp [*, errW_none, errW_some] <;> rfl), by repeat (first | (with_reducible first | exact HB.out | apply below_alloc | apply pw_below_drewN | apply below_drew1 | refine below_set ?_ GE137.out) | exact HB.out)⟩
        · replace c15 := Bool.eq_false_iff.mpr c15
          subst c15
          have H1 : (if a0_0 = 4 then (if a0_1 = 0 then (some (a0_3.toList == ([] : List UInt8))) else (some false)) else (if a0_0 = 5 then (if a0_1 = 0 then (if a0_2 = 0 then (some (decide ((a0_3.size : Int) ≤ 1000))) else (some false)) else (some false)) else (if a0_2 = 0 then (some (decide ((a0_3.size : Int) ≤ 1000))) else (some false)))) = some r := by rw [if_neg (show ¬ (false = true) by decide)] at H; exact H
          clear H
          have H := H1
          clear H1
          by_cases c19 : a0_0 = 4
          · rw [if_pos c19] at H
            have c19b0 : (a0_0 == 4) = true := beq_iff_eq.mpr c19
            have c19b1 : (a0_0 != 4) = false := bne_eq_false_iff_eq.mpr c19
            clear c19
            by_cases c20 : a0_1 = 0
            · rw [if_pos c20] at H
              have c20b0 : (a0_1 == 0) = true := beq_iff_eq.mpr c20
              have c20b1 : (a0_1 != 0) = false := bne_eq_false_iff_eq.mpr c20
              clear c20
              obtain rfl := Option.some.inj H
              have hcz21_0 : wc.cell? ⟨gb137, 0, none⟩ = some (.int .i64 a0_0) := (blk_cell BK137.out 0).trans rfl
              have hcz21_1 : wc.cell? ⟨gb137, 1, none⟩ = some (.int .i64 a0_1) := (blk_cell BK137.out 1).trans rfl
              have hcz21_2 : wc.cell? ⟨gb137, 2, none⟩ = some (.int .i64 a0_2) := (blk_cell BK137.out 2).trans rfl
              have hcz21_3 : wc.cell? ⟨gb137, 3, none⟩ = some (.string a0_3) := (blk_cell BK137.out 3).trans rfl
              have hfz21_0 := blk_frozen BK137.out 0
              have hfz21_1 := blk_frozen BK137.out 1
              have hfz21_2 := blk_frozen BK137.out 2
              have hfz21_3 := blk_frozen BK137.out 3
              go_wp2
              go_ret
              exact ⟨by first | rfl | (simp [errW_none, errW_some] <;> rfl) | (simp [*, errW_none, errW_some] <;> rfl), by repeat (first | (with_reducible first | exact HB.out | apply below_alloc | apply pw_below_drewN | apply below_drew1 | refine below_set ?_ GE137.out) | exact HB.out)⟩
            · rw [if_neg c20] at H
              have c20b0 : (a0_1 == 0) = false := beq_eq_false_iff_ne.mpr c20
              have c20b1 : (a0_1 != 0) = true := bne_iff_ne.mpr c20
              obtain rfl := Option.some.inj H
              have hcz22_0 : wc.cell? ⟨gb137, 0, none⟩ = some (.int .i64 a0_0) := (blk_cell BK137.out 0).trans rfl
              have hcz22_1 : wc.cell? ⟨gb137, 1, none⟩ = some (.int .i64 a0_1) := (blk_cell BK137.out 1).trans rfl
              have hcz22_2 : wc.cell? ⟨gb137, 2, none⟩ = some (.int .i64 a0_2) := (blk_cell BK137.out 2).trans rfl
              have hcz22_3 : wc.cell? ⟨gb137, 3, none⟩ = some (.string a0_3) := (blk_cell BK137.out 3).trans rfl
              have hfz22_0 := blk_frozen BK137.out 0
              have hfz22_1 := blk_frozen BK137.out 1
              have hfz22_2 := blk_frozen BK137.out 2
              have hfz22_3 := blk_frozen BK137.out 3
              go_wp2
              go_ret
              exact ⟨by first | rfl | (simp [errW_none, errW_some] <;> rfl) | (simp [*, errW_none, errW_some] <;> rfl), by repeat (first | (with_reducible first | exact HB.out | apply below_alloc | apply pw_below_drewN | apply below_drew1 | refine below_set ?_ GE137.out) | exact HB.out)⟩
          · rw [if_neg c19] at H
            have c19b0 : (a0_0 == 4) = false := beq_eq_false_iff_ne.mpr c19
            have c19b1 : (a0_0 != 4) = true := bne_iff_ne.mpr c19
            by_cases c23 : a0_0 = 5
            · rw [if_pos c23] at H
              have c23b0 : (a0_0 == 5) = true := beq_iff_eq.mpr c23
              have c23b1 : (a0_0 != 5) = false := bne_eq_false_iff_eq.mpr c23
              clear c23
              by_cases c24 : a0_1 = 0
              · rw [if_pos c24] at H
                have c24b0 : (a0_1 == 0) = true := beq_iff_eq.mpr c24
                have c24b1 : (a0_1 != 0) = false := bne_eq_false_iff_eq.mpr c24
                clear c24
                by_cases c25 : a0_2 = 0
                · rw [if_pos c25] at H
                  have c25b0 : (a0_2 == 0) = true := beq_iff_eq.mpr c25
                  have c25b1 : (a0_2 != 0) = false := bne_eq_false_iff_eq.mpr c25
                  clear c25
                  obtain rfl := Option.some.inj H
                  have hcz26_0 : wc.cell? ⟨gb137, 0, none⟩ = some (.int .i64 a0_0) := (blk_cell BK137.out 0).trans rfl
                  have hcz26_1 : wc.cell? ⟨gb137, 1, none⟩ = some (.int .i64 a0_1) := (blk_cell BK137.out 1).trans rfl
                  have hcz26_2 : wc.cell? ⟨gb137, 2, none⟩ = some (.int .i64 a0_2) := (blk_cell BK137.out 2).trans rfl
                  have hcz26_3 : wc.cell? ⟨gb137, 3, none⟩ = some (.string a0_3) := (blk_cell BK137.out 3).trans rfl
                  have hfz26_0 := blk_frozen BK137.out 0
                  have hfz26_1 := blk_frozen BK137.out 1
                  have hfz26_2 := blk_frozen BK137.out 2
                  have hfz26_3 := blk_frozen BK137.out 3
                  go_wp2
                  go_ret
                  exact ⟨by first | rfl | (simp [errW_none, errW_some] <;> rfl) | (simp [*, errW_none, errW_some] <;> rfl), by repeat (first | (with_reducible first | exact HB.out | apply below_alloc | apply pw_below_drewN | apply below_drew1 | refine below_set ?_ GE137.out) | exact HB.out)⟩
                · rw [if_neg c25] at H
                  have c25b0 : (a0_2 == 0) = false := beq_eq_false_iff_ne.mpr c25
                  have c25b1 : (a0_2 != 0) = true := bne_iff_ne.mpr c25
                  obtain rfl := Option.some.inj H
                  have hcz27_0 : wc.cell? ⟨gb137, 0, none⟩ = some (.int .i64 a0_0) := (blk_cell BK137.out 0).trans rfl
                  have hcz27_1 : wc.cell? ⟨gb137, 1, none⟩ = some (.int .i64 a0_1) := (blk_cell BK137.out 1).trans rfl
                  have hcz27_2 : wc.cell? ⟨gb137, 2, none⟩ = some (.int .i64 a0_2) := (blk_cell BK137.out 2).trans rfl
                  have hcz27_3 : wc.cell? ⟨gb137, 3, none⟩ = some (.string a0_3) := (blk_cell BK137.out 3).trans rfl
                  have hfz27_0 := blk_frozen BK137.out 0
                  have hfz27_1 := blk_frozen BK137.out 1
                  have hfz27_2 := blk_frozen BK137.out 2
                  have hfz27_3 := blk_frozen BK137.out 3
                  go_wp2
                  go_ret
                  exact ⟨by first | rfl | (simp [errW_none, errW_some] <;> rfl) | (simp [*, errW_none, errW_some] <;> rfl), by repeat (first | (with_reducible first | exact HB.out | apply below_alloc | apply pw_below_drewN | apply below_drew1 | refine below_set ?_ GE137.out) | exact HB.out)⟩
              · rw [if_neg c24] at H
                have c24b0 : (a0_1 == 0) = false := beq_eq_false_iff_ne.mpr c24
                have c24b1 : (a0_1 != 0) = true := bne_iff_ne.mpr c24
                obtain rfl := Option.some.inj H
                have hcz28_0 : wc.cell? ⟨gb137, 0, none⟩ = some (.int .i64 a0_0) := (blk_cell BK137.out 0).trans rfl
                have hcz28_1 : wc.cell? ⟨gb137, 1, none⟩ = some (.int .i64 a0_1) := (blk_cell BK137.out 1).trans rfl
                have hcz28_2 : wc.cell? ⟨gb137, 2, none⟩ = some (.int .i64 a0_2) := (blk_cell BK137.out 2).trans rfl
                have hcz28_3 : wc.cell? ⟨gb137, 3, none⟩ = some (.string a0_3) := (blk_cell BK137.out 3).trans rfl
                have hfz28_0 := blk_frozen BK137.out 0
                have hfz28_1 := blk_frozen BK137.out 1
                have hfz28_2 := blk_frozen BK137.out 2
                have hfz28_3 := blk_frozen BK137.out 3
                go_wp2
                go_ret
                exact ⟨by first | rfl | (simp [errW_none, errW_some] <;> rfl) | (simp [*, errW_none, errW_some] <;> rfl), by repeat (first | (with_reducible first | exact HB.out | apply below_alloc | apply pw_below_drewN | apply below_drew1 | refine below_set ?_ GE137.out) | exact HB.out)⟩
            · rw [if_neg c23] at H
              have c23b0 : (a0_0 == 5) = false := beq_eq_false_iff_ne.mpr c23
              have c23b1 : (a0_0 != 5) = true := bne_iff_ne.mpr c23
              by_cases c29 : a0_2 = 0
              · rw [if_pos c29] at H
                have c29b0 : (a0_2 == 0) = true := beq_iff_eq.mpr c29
                have c29b1 : (a0_2 != 0) = false := bne_eq_false_iff_eq.mpr c29
                clear c29
                obtain rfl := Option.some.inj H
                have hcz30_0 : wc.cell? ⟨gb137, 0, none⟩ = some (.int .i64 a0_0) := (blk_cell BK137.out 0).trans rfl
                have hcz30_1 : wc.cell? ⟨gb137, 1, none⟩ = some (.int .i64 a0_1) := (blk_cell BK137.out 1).trans rfl
                have hcz30_2 : wc.cell? ⟨gb137, 2, none⟩ = some (.int .i64 a0_2) := (blk_cell BK137.out 2).trans rfl
                have hcz30_3 : wc.cell? ⟨gb137, 3, none⟩ = some (.string a0_3) := (blk_cell BK137.out 3).trans rfl
                have hfz30_0 := blk_frozen BK137.out 0
                have hfz30_1 := blk_frozen BK137.out 1
                have hfz30_2 := blk_frozen BK137.out 2
                have hfz30_3 := blk_frozen BK137.out 3
                go_wp2
                go_ret
                exact ⟨by first | rfl | (simp [errW_none, errW_some] <;> rfl) | (simp [*, errW_none, errW_some] <;> rfl), by repeat (first | (with_reducible first | exact HB.out | apply below_alloc | apply pw_below_drewN | apply below_drew1 | refine below_set ?_ GE137.out) | exact HB.out)⟩
              · rw [if_neg c29] at H
                have c29b0 : (a0_2 == 0) = false := beq_eq_false_iff_ne.mpr c29
                have c29b1 : (a0_2 != 0) = true := bne_iff_ne.mpr c29
                obtain rfl := Option.some.inj H
                have hcz31_0 : wc.cell? ⟨gb137, 0, none⟩ = some (.int .i64 a0_0) := (blk_cell BK137.out 0).trans rfl
                have hcz31_1 : wc.cell? ⟨gb137, 1, none⟩ = some (.int .i64 a0_1) := (blk_cell BK137.out 1).trans rfl
                have hcz31_2 : wc.cell? ⟨gb137, 2, none⟩ = some (.int .i64 a0_2) := (blk_cell BK137.out 2).trans rfl
                have hcz31_3 : wc.cell? ⟨gb137, 3, none⟩ = some (.string a0_3) := (blk_cell BK137.out 3).trans rfl
                have hfz31_0 := blk_frozen BK137.out 0
                have hfz31_1 := blk_frozen BK137.out 1
                have hfz31_2 := blk_frozen BK137.out 2
                have hfz31_3 := blk_frozen BK137.out 3
                go_wp2
                go_ret
                exact ⟨by first | rfl | (simp [errW_none, errW_some] <;> rfl) | (simp [*, errW_none, errW_some] <;> rfl), by repeat (first | (with_reducible first | exact HB.out | apply below_alloc | apply pw_below_drewN | apply below_drew1 | refine below_set ?_ GE137.out) | exact HB.out)⟩

end Go.Proofs.Ythdnaliahdohhaa.C
