/- Small parts: Great, Good, f, v; literals of one or two terms. -/
import Derived.Test.YthdnaliahdohhaaHHpureA1
import Derived.Test.YthdnaliahdohhaaHHlit
namespace Go.Proofs.Ythdnaliahdohhaa.H
open Go.RowKit Go.Proofs.YthdnaliahdohhaaW.PrintWords Go.Proofs.YthdnaliahdohhaaW.PrintLast Go.Proofs.YthdnaliahdohhaaW.PrintMore Go.Proofs.Ythdnaliahdohhaa.Map
attribute [local go_sem] max2_int min2_int max_two min_two max_three min_three max_four min_four
set_option linter.unusedVariables false
set_option linter.unusedSimpArgs false
set_option maxHeartbeats 8000000 in
theorem great_calls (l : List S146) (A : Option Addr) (c : Nat) (w : World) :
    Calls Try.prog 31 #[.slice A l.length c] w fun e w' => e = .returned (.bool (decide (60 < l.length))) ∧ Below w.heap.size w w' := by
  have HB := Aside0.mk (Below.refl w.heap.size w)
  by_cases h : 60 < l.length
  · have h1 : decide ((60 : Int) < (l.length : Int)) = true := decide_eq_true (by omega)
    have h2 : (60 : Int) < (l.length : Int) := by omega
    have HV : Aside0 (decide (60 < l.length) = true) := ⟨by simpa using h⟩
    go_enter Try.func31, Try.ntmps31
    go_wp2_with fail
    go_ret
    exact ⟨by first | rfl | (rw [HV.out]; rfl), HB.out⟩
  · have h1 : decide ((60 : Int) < (l.length : Int)) = false := decide_eq_false (by omega)
    have h2 : ¬ (60 : Int) < (l.length : Int) := by omega
    have HV : Aside0 (decide (60 < l.length) = false) := ⟨by simpa using h⟩
    go_enter Try.func31, Try.ntmps31
    go_wp2_with fail
    go_ret
    exact ⟨by first | rfl | (rw [HV.out]; rfl), HB.out⟩
set_option maxHeartbeats 8000000 in
set_option maxRecDepth 100000 in
theorem f19_calls (s : ByteArray) (A : Option Addr) (n c : Nat) (w : World) :
    Calls Try.prog 40 #[.string s, .slice A n c] w fun e w' => e = .returned (.agg #[.int .i64 4, .int .i64 0, .string s, .slice A n c]) ∧ Below w.heap.size w w' := by
  have S1 := Aside0.mk (heap_alloc_new w (.cells #[.int .i64 4, .int .i64 0, .string s, .slice A n c] 58))
  have S3 := Aside0.mk (below_alloc (Below.refl w.heap.size w) (.cells #[.int .i64 4, .int .i64 0, .string s, .slice A n c] 58))
  go_enter Try.func40, Try.ntmps40
  go_wp2_with fail
  refine bodyPost_ret (results_cell_row rfl _ _ (w.heap.size) 58 _ (0, 0) _ rfl S1.out Try.underlying58 rfl (by kernel_rfl)) rfl ?_
  exact ⟨rfl, S3.out⟩
set_option maxHeartbeats 8000000 in
set_option maxRecDepth 100000 in
theorem v19_calls (n : Int) (w : World) :
    Calls Try.prog 76 #[.int .i64 n] w fun e w' => e = .returned (.agg #[.int .i64 1, .int .i64 n, .string ⟨#[]⟩, .slice none 0 0]) ∧ Below w.heap.size w w' := by
  have S1 := Aside0.mk (heap_alloc_new w (.cells #[.int .i64 1, .int .i64 n, .string ⟨#[]⟩, .slice none 0 0] 58))
  have S3 := Aside0.mk (below_alloc (Below.refl w.heap.size w) (.cells #[.int .i64 1, .int .i64 n, .string ⟨#[]⟩, .slice none 0 0] 58))
  go_enter Try.func76, Try.ntmps76
  go_wp2_with fail
  refine bodyPost_ret (results_cell_row rfl _ _ (w.heap.size) 58 _ (0, 0) _ rfl S1.out Try.underlying58 rfl (by kernel_rfl)) rfl ?_
  exact ⟨rfl, S3.out⟩
/-- what hands back a term of its own -/
def RetT (t : S58) (w : World) (e : Ending) (w' : World) : Prop := ∃ A c, e = .returned (.agg #[.int .i64 t.f0, .int .i64 t.f1, .string t.f2, .slice A t.f3.length c]) ∧ t.f3.length ≤ c ∧ Kd.F k58 w' (fun k => w.heap.size ≤ k) A t.f3.length t.f3 ∧ Below w.heap.size w w'
theorem R_T {w w' : World} {v : Value} {l : List S58} (h : Kd.R k58 58 w' w.heap.size (fun _ => True) v l) : ∃ A c, v = .slice A l.length c ∧ l.length ≤ c ∧ Kd.F k58 w' (fun k => w.heap.size ≤ k) A l.length l := by
  have h1 := Kd.R_N (Kd.R_mono (Kd.R_bound h) (ok' := fun k => w.heap.size ≤ k) (fun k hk => hk.2.1))
  obtain ⟨A, c, rfl⟩ := Kd.N_slice h1
  exact ⟨A, c, rfl, (Kd.N_reads' h1).2.1, Kd.N_F h1⟩
set_option maxHeartbeats 8000000 in
set_option maxRecDepth 100000 in
theorem good_ok (l : List S146) (hl : l.length ≤ 60) : ∃ t : S58, allM t = true ∧ szT t ≤ 500 ∧ ∀ (A : Option Addr) (c : Nat) (w : World), Kd.C k146 w A l.length l → l.length ≤ c → Calls Try.prog 33 #[.slice A l.length c] w (RetT t w) := by
  obtain ⟨y, r, ⟨K1, h1⟩, hr, hsy, hny⟩ := of_ok l.length l (Nat.le_refl _) (by omega)
  obtain ⟨t, ⟨K2, h2⟩, ht, hst⟩ := mend_ok 1000 (by omega) y (by omega) hny
  refine ⟨t, ht, by omega, fun A c w hC hc => ?_⟩
  have hOf := Aside0.mk (fun w hC => prolixref03_Of.calls K1 A c l _ _ _ _ _ w hC hc (h1 K1 (Nat.le_refl _)))
  have hMe := Aside0.mk (fun A2 c2 w hC hc => prolixref03_Mend.calls K2 y.f0 y.f1 y.f2 A2 c2 y.f3 _ _ _ _ w hC hc (h2 K2 (Nat.le_refl _)))
  have HC := Aside0.mk hC
  have HB0 := Aside0.mk (below_alloc (Below.refl w.heap.size w) (.cells #[.int .i64 0, .int .i64 0, .string ⟨#[]⟩, .slice none 0 0] 58))
  have HK0 := Aside0.mk (heap_alloc_new w (.cells #[.int .i64 0, .int .i64 0, .string ⟨#[]⟩, .slice none 0 0] 58))
  clear hC hc h1 h2 hr hsy hny ht hst hl
  go_enter Try.func33, Try.ntmps33
  go_wp2_with (first
    | (go_at_call 45
       refine (hOf.out _ (Kd.C_below HC.out HB0.out)).mono ?_
       rintro e w2 ⟨v3, rfl, hR, hb⟩
       obtain ⟨A2, c2, rfl, hc2, hF2⟩ := R_T hR
       replace HB0 := Aside0.mk (show Below w.heap.size w (w2.alloc (.cells #[.int .i64 y.f0, .int .i64 y.f1, .string y.f2, .slice A2 y.f3.length c2] 58)) from below_alloc (below_step HB0.out hb) _)
       replace HK0 := Aside0.mk (blk_alloc (blk_below HK0.out hb) (.cells #[.int .i64 y.f0, .int .i64 y.f1, .string y.f2, .slice A2 y.f3.length c2] 58))
       have HF2 := Aside0.mk (Kd.F_alloc hF2 (.cells #[.int .i64 y.f0, .int .i64 y.f1, .string y.f2, .slice A2 y.f3.length c2] 58))
       have HC2 := Aside0.mk hc2
       clear hb hF2 hR hc2)
    | (go_at_call 46
       refine (hMe.out _ _ _ (Kd.F_now HF2.out) HC2.out).mono ?_
       rintro e w4 ⟨v4, rfl, hR, hb⟩
       obtain ⟨A4, c4, rfl, hc4, hF4⟩ := R_T hR
       have hs4 : w.heap.size ≤ (w2.alloc (.cells #[.int .i64 y.f0, .int .i64 y.f1, .string y.f2, .slice A2 y.f3.length c2] 58)).heap.size := HB0.out.size
       have HK4 := blk_below HK0.out hb
       have u0 := (blk_cell HK4 0).trans rfl
       have u1 := (blk_cell HK4 1).trans rfl
       have u2 := (blk_cell HK4 2).trans rfl
       have u3 := (blk_cell HK4 3).trans rfl
       have z0 := blk_frozen HK4 0
       have z1 := blk_frozen HK4 1
       have z2 := blk_frozen HK4 2
       have z3 := blk_frozen HK4 3
       obtain ⟨s1, s2, s3⟩ := set4 (.int .i64 t.f0) (.int .i64 t.f1) (.string t.f2) (.slice A4 t.f3.length c4) HK4
       have S1 := Aside0.mk s1
       have S3 := Aside0.mk (s3 _ _ (below_step HB0.out hb) (Nat.le_refl _))
       have HF4 := Aside0.mk (Kd.F_step (Kd.F_mono hF4 (ok' := fun k => w.heap.size < k) (fun k hk => by have := blk_lt HK0.out; have hk2 : _ ≤ k := hk; omega)) (fun k hk _ => s2 k (by omega)))
       have Hc4 := Aside0.mk hc4
       clear hb hF4 hR hc4 HK4 s1 s2 s3 hs4))
  refine bodyPost_ret (results_cell_row rfl _ _ (w.heap.size) 58 _ (0, 0) _ rfl S1.out Try.underlying58 rfl (by kernel_rfl)) rfl ?_
  exact ⟨A4, c4, rfl, Hc4.out, Kd.F_mono HF4.out (fun k hk => Nat.le_of_lt hk), S3.out⟩
end Go.Proofs.Ythdnaliahdohhaa.H
