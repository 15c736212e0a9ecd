/- term: Vars, Number. -/
import Derived.Test.YthdnaliahdohhaaHHwith
namespace Go.Proofs.Ythdnaliahdohhaa.H
open Go.RowKit Go.Proofs.YthdnaliahdohhaaW.PrintWords Go.Proofs.YthdnaliahdohhaaW.PrintLast Go.Proofs.YthdnaliahdohhaaW.PrintMore Go.Proofs.Ythdnaliahdohhaa.Map
attribute [local go_sem] max2_int min2_int max_two min_two max_three min_three max_four min_four
set_option linter.unusedVariables false
set_option linter.unusedSimpArgs false
theorem FS.start {w0 w : World} (h : Below w0.heap.size w0 w) : FS w0 ((w.alloc (.map #[] 0)).alloc (.cells #[.slice none 0 0, .map (some w.heap.size)] 136)) (w.heap.size + 1) w.heap.size (.slice none 0 0) [] := by
  have b1 := below_alloc (Below.refl w.heap.size w) (.map #[] 0)
  have b2 := below_alloc (Below.refl (w.alloc (.map #[] 0)).heap.size (w.alloc (.map #[] 0))) (.cells #[.slice none 0 0, .map (some w.heap.size)] 136)
  have i1 := Is.made iV iV w
  have k := heap_alloc_new (w.alloc (.map #[] 0)) (.cells #[.slice none 0 0, .map (some w.heap.size)] 136)
  have s1 : (w.alloc (.map #[] 0)).heap.size = w.heap.size + 1 := by simp
  rw [s1] at k
  have hs := h.size
  exact ⟨below_step (below_step h b1) b2, k, i1.mods (Mods.of_below (fun _ => False) b2) id, Kd.N_nil _ _ _ _ _, by omega, hs⟩
set_option maxHeartbeats 8000000 in
set_option maxRecDepth 100000 in
theorem vars_calls (x : S58) (hx : szT x ≤ 1000000) (A : Option Addr) (c : Nat) (w : World) (hC : Kd.C k58 w A x.f3.length x.f3) (hc : x.f3.length ≤ c) :
    Calls Try.prog 39 #[.agg #[.int .i64 x.f0, .int .i64 x.f1, .string x.f2, .slice A x.f3.length c]] w fun e w' => ∃ A' c', e = .returned (.slice A' ((wiT x []).2.map (·.1)).length c') ∧ Kd.C (Kd.int .i64) w' A' ((wiT x []).2.map (·.1)).length ((wiT x []).2.map (·.1)) ∧ Below w.heap.size w w' := by
  have hmm := @run_makeMap Try.prog
  have hmf : ∀ (fn : Fn) (first cap : Array Value) (w : World), (Instr.makeFunc fn first cap).run Try.prog w = .ok (.func fn first cap) w := fun _ _ _ _ => rfl
  have HC := Aside0.mk hC
  have b0 := below_alloc (Below.refl w.heap.size w) (.cells #[.int .i64 x.f0, .int .i64 x.f1, .string x.f2, .slice A x.f3.length c] 58)
  have HF := FS.start b0
  have hs0 : (w.alloc (.cells #[.int .i64 x.f0, .int .i64 x.f1, .string x.f2, .slice A x.f3.length c] 58)).heap.size = w.heap.size + 1 := by simp
  rw [hs0] at HF
  have Hx := Aside0.mk hx
  have Hc := Aside0.mk hc
  replace HF := Aside0.mk HF
  clear hC hx hc b0 hs0
  go_enter Try.func39, Try.ntmps39
  go_wp2_with fail
  generalize ((w.alloc (.cells #[.int .i64 x.f0, .int .i64 x.f1, .string x.f2, .slice A x.f3.length c] 58)).alloc (.map #[] 0)).alloc (.cells #[.slice none 0 0, .map (some (w.heap.size + 1))] 136) = w1 at *
  refine (with_calls 1000000 (by omega) x Hx.out A c w w1 (fun k => k < w.heap.size) ?_ Hc.out (w.heap.size + 1 + 1) (w.heap.size + 1) (.slice none 0 0) [] (fun k hk => ⟨by omega, by omega, by simp [Value.ownBlock]⟩) HF.out (by have := Hx.out; simp; omega)).mono ?_
  · exact Kd.F_below (Kd.C_F k58_heap HC.out) HF.out.below
  rintro e w2 ⟨A5, c5, v5, rfl, hc5, hF5, hI5, hS5⟩
  have BG := (blk_cell hI5.box 0).trans rfl
  obtain ⟨A1, c1, e1⟩ := Kd.N_slice hI5.row
  have hE : Aside0 (FS w w2 (w.heap.size + 1 + 1) (w.heap.size + 1) v5 (wiT x []).2) := ⟨hI5⟩
  clear hF5 hI5 hS5 hmm hmf
  subst e1
  go_wp2_with fail
  go_ret
  exact ⟨A1, c1, by rw [List.length_map]; rfl, Kd.F_now (Kd.N_F hE.out.row), hE.out.below⟩
set_option maxHeartbeats 8000000 in
set_option maxRecDepth 100000 in
theorem number_calls (x : S58) (hx : szT x ≤ 1000000) (A : Option Addr) (c : Nat) (w : World) (hC : Kd.C k58 w A x.f3.length x.f3) (hc : x.f3.length ≤ c) :
    Calls Try.prog 50 #[.agg #[.int .i64 x.f0, .int .i64 x.f1, .string x.f2, .slice A x.f3.length c]] w fun e w' => ∃ A' c', e = .returned (.agg #[.int .i64 (wiT x []).1.f0, .int .i64 (wiT x []).1.f1, .string (wiT x []).1.f2, .slice A' (wiT x []).1.f3.length c']) ∧ (wiT x []).1.f3.length ≤ c' ∧ Kd.F k58 w' (fun k => w.heap.size ≤ k) A' (wiT x []).1.f3.length (wiT x []).1.f3 ∧ Below w.heap.size w w' := by
  have hmm := @run_makeMap Try.prog
  have hmf : ∀ (fn : Fn) (first cap : Array Value) (w : World), (Instr.makeFunc fn first cap).run Try.prog w = .ok (.func fn first cap) w := fun _ _ _ _ => rfl
  obtain ⟨r, hr_⟩ : ∃ r, r = wiT x [] := ⟨_, rfl⟩
  rw [← hr_]
  have hr := Aside0.mk hr_
  clear hr_
  have HC := Aside0.mk hC
  have b0 := below_alloc (below_alloc (Below.refl w.heap.size w) (.cells #[.int .i64 x.f0, .int .i64 x.f1, .string x.f2, .slice A x.f3.length c] 58)) (.cells #[.int .i64 0, .int .i64 0, .string ⟨#[]⟩, .slice none 0 0] 58)
  have HF := FS.start b0
  have hs0 : ((w.alloc (.cells #[.int .i64 x.f0, .int .i64 x.f1, .string x.f2, .slice A x.f3.length c] 58)).alloc (.cells #[.int .i64 0, .int .i64 0, .string ⟨#[]⟩, .slice none 0 0] 58)).heap.size = w.heap.size + 1 + 1 := by simp
  have K2 := heap_alloc_new (w.alloc (.cells #[.int .i64 x.f0, .int .i64 x.f1, .string x.f2, .slice A x.f3.length c] 58)) (.cells #[.int .i64 0, .int .i64 0, .string ⟨#[]⟩, .slice none 0 0] 58)
  rw [show (w.alloc (.cells #[.int .i64 x.f0, .int .i64 x.f1, .string x.f2, .slice A x.f3.length c] 58)).heap.size = w.heap.size + 1 by simp] at K2
  replace K2 := blk_alloc (blk_alloc K2 (.map #[] 0)) (.cells #[.slice none 0 0, .map (some (w.heap.size + 1 + 1))] 136)
  rw [hs0] at HF
  have Hx := Aside0.mk hx
  have Hc := Aside0.mk hc
  replace HF := Aside0.mk HF
  replace K2 := Aside0.mk K2
  clear hC hx hc b0 hs0
  go_enter Try.func50, Try.ntmps50
  go_wp2_with fail
  generalize (((w.alloc (.cells #[.int .i64 x.f0, .int .i64 x.f1, .string x.f2, .slice A x.f3.length c] 58)).alloc (.cells #[.int .i64 0, .int .i64 0, .string ⟨#[]⟩, .slice none 0 0] 58)).alloc (.map #[] 0)).alloc (.cells #[.slice none 0 0, .map (some (w.heap.size + 1 + 1))] 136) = w1 at *
  refine (with_calls 1000000 (by omega) x Hx.out A c w w1 (fun k => k < w.heap.size) ?_ Hc.out (w.heap.size + 1 + 1 + 1) (w.heap.size + 1 + 1) (.slice none 0 0) [] (fun k hk => ⟨by omega, by omega, by simp [Value.ownBlock]⟩) HF.out (by have := Hx.out; simp; omega)).mono ?_
  · exact Kd.F_below (Kd.C_F k58_heap HC.out) HF.out.below
  rw [← hr.out]
  rintro e w2 ⟨A5, c5, v5, rfl, hc5, hF5, hI5, hS5⟩
  have J2 := hS5.blkF HF.out K2.out (by decide) (by decide)
  have hs1 := blk_lt K2.out
  have d0 := (blk_cell J2 0).trans rfl
  have d1 := (blk_cell J2 1).trans rfl
  have d2 := (blk_cell J2 2).trans rfl
  have d3 := (blk_cell J2 3).trans rfl
  have z0 := blk_frozen J2 0
  have z1 := blk_frozen J2 1
  have z2 := blk_frozen J2 2
  have z3 := blk_frozen J2 3
  have hE := Aside0.mk hI5.below
  replace J2 := Aside0.mk J2
  replace hF5 := Aside0.mk hF5
  replace hc5 := Aside0.mk hc5
  replace hs1 := Aside0.mk hs1
  clear hI5 hS5 hmm hmf
  go_wp2_with fail
  have s1 := blk_put4 (.int .i64 r.1.f0) (.int .i64 r.1.f1) (.string r.1.f2) (.slice A5 r.1.f3.length c5) J2.out
  have sm := mods4 w2 (w.heap.size + 1) (.int .i64 r.1.f0) (.int .i64 r.1.f1) (.string r.1.f2) (.slice A5 r.1.f3.length c5)
  refine bodyPost_ret (results_cell_row rfl _ _ (w.heap.size + 1) 58 #[.int .i64 r.1.f0, .int .i64 r.1.f1, .string r.1.f2, .slice A5 r.1.f3.length c5] (0, 0) _ rfl s1 Try.underlying58 rfl (by kernel_rfl)) rfl ?_
  exact ⟨A5, c5, rfl, hc5.out, Kd.F_mono (Kd.F_step hF5.out (fun q hq hl => sm.block q hl (by have := hq.1; have := hs1.out; omega))) (fun q hq => by have := hq.1; have := hs1.out; omega), sm.under hE.out (Nat.le_refl _) (fun k hk => by omega)⟩
end Go.Proofs.Ythdnaliahdohhaa.H
