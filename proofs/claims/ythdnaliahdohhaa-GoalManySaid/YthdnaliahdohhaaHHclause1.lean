/- Goals: a term as a clause (goal.Clause), part. -/
import Derived.Test.YthdnaliahdohhaaHHclause0
namespace Go.Proofs.Ythdnaliahdohhaa.H
open Go.RowKit Go.Proofs.YthdnaliahdohhaaW.PrintWords Go.Proofs.YthdnaliahdohhaaW.PrintLast Go.Proofs.YthdnaliahdohhaaW.PrintMore Go.Proofs.Ythdnaliahdohhaa.Map Go.Proofs.Ythdnaliahdohhaa.Reg
attribute [local go_sem] max2_int min2_int max_two min_two max_three min_three max_four min_four
set_option linter.unusedVariables false
set_option linter.unusedSimpArgs false
set_option maxHeartbeats 8000000 in
set_option maxRecDepth 100000 in
theorem clause_n (x : S58) (hx : szT x ≤ 400000) (A : Option Addr) (c : Nat) (w : World) (ok : Nat → Prop) (hok : ∀ q, ok q → q < w.heap.size) (hF : Kd.F k58 w ok A x.f3.length x.f3) (hc : x.f3.length ≤ c) (he : chk x = 0) (hic : isClause x = false) :
    Calls Try.prog 32 #[.agg #[.int .i64 x.f0, .int .i64 x.f1, .string x.f2, .slice A x.f3.length c]] w (ClauseP x w ok) := by
  have HV : Aside0 (clauseR x = clauseHBR x tTrue) := ⟨by rw [clauseR_of he]; unfold clauseHB; rw [if_neg (by rw [hic]; simp)]⟩
  have HI : Aside0 ((x.f0 == 4) = false ∨ ((x.f0 == 4) = true ∧ (x.f2.toList == [58, 45]) = false) ∨ ((x.f0 == 4) = true ∧ (x.f2.toList == [58, 45]) = true ∧ ((x.f3.length : Int) == 2) = false)) := ⟨by
    by_cases k4 : x.f0 = 4
    · by_cases ks : x.f2 = ⟨#[58, 45]⟩
      · refine Or.inr (Or.inr ⟨by simpa using k4, by rw [ks, tl_cl]; rfl, ?_⟩)
        have : ¬ x.f3.length = 2 := fun h => by unfold isClause at hic; simp [k4, ks, h] at hic
        simpa using (by omega : ¬ (x.f3.length : Int) = 2)
      · exact Or.inr (Or.inl ⟨by simpa using k4, tl_ne ks⟩)
    · exact Or.inl (by simpa using k4)⟩
  clear hic
  have HB0 : Aside0 (Below w.heap.size w ((((w.alloc (.cells #[.int .i64 x.f0, .int .i64 x.f1, .string x.f2, .slice A x.f3.length c] 58)).alloc (.cells #[.int .i64 0, .int .i64 0, .string ⟨#[]⟩, .slice none 0 0] 58)).alloc (.cells #[.int .i64 0, .int .i64 0, .string ⟨#[]⟩, .slice none 0 0] 58)).alloc (.cells #[.int .i64 0, .int .i64 0, .string ⟨#[]⟩, .slice none 0 0] 58))) := ⟨below_alloc (below_alloc (below_alloc (below_alloc (Below.refl _ _) _) _) _) _⟩
  have HK1 : Aside0 (((((w.alloc (.cells #[.int .i64 x.f0, .int .i64 x.f1, .string x.f2, .slice A x.f3.length c] 58)).alloc (.cells #[.int .i64 0, .int .i64 0, .string ⟨#[]⟩, .slice none 0 0] 58)).alloc (.cells #[.int .i64 0, .int .i64 0, .string ⟨#[]⟩, .slice none 0 0] 58)).alloc (.cells #[.int .i64 0, .int .i64 0, .string ⟨#[]⟩, .slice none 0 0] 58)).heap[w.heap.size]? = some (.cells #[.int .i64 x.f0, .int .i64 x.f1, .string x.f2, .slice A x.f3.length c] 58 (0, 0))) := ⟨blk_alloc (blk_alloc (blk_alloc (heap_alloc_new _ _) _) _) _⟩
  have HK2 : Aside0 (((((w.alloc (.cells #[.int .i64 x.f0, .int .i64 x.f1, .string x.f2, .slice A x.f3.length c] 58)).alloc (.cells #[.int .i64 0, .int .i64 0, .string ⟨#[]⟩, .slice none 0 0] 58)).alloc (.cells #[.int .i64 0, .int .i64 0, .string ⟨#[]⟩, .slice none 0 0] 58)).alloc (.cells #[.int .i64 0, .int .i64 0, .string ⟨#[]⟩, .slice none 0 0] 58)).heap[w.heap.size + 1]? = some (.cells #[.int .i64 0, .int .i64 0, .string ⟨#[]⟩, .slice none 0 0] 58 (0, 0))) := ⟨blk_alloc (blk_alloc (by have := heap_alloc_new (w.alloc (.cells #[.int .i64 x.f0, .int .i64 x.f1, .string x.f2, .slice A x.f3.length c] 58)) (.cells #[.int .i64 0, .int .i64 0, .string ⟨#[]⟩, .slice none 0 0] 58); simpa using this) _) _⟩
  have HK3 : Aside0 (((((w.alloc (.cells #[.int .i64 x.f0, .int .i64 x.f1, .string x.f2, .slice A x.f3.length c] 58)).alloc (.cells #[.int .i64 0, .int .i64 0, .string ⟨#[]⟩, .slice none 0 0] 58)).alloc (.cells #[.int .i64 0, .int .i64 0, .string ⟨#[]⟩, .slice none 0 0] 58)).alloc (.cells #[.int .i64 0, .int .i64 0, .string ⟨#[]⟩, .slice none 0 0] 58)).heap[w.heap.size + 1 + 1]? = some (.cells #[.int .i64 0, .int .i64 0, .string ⟨#[]⟩, .slice none 0 0] 58 (0, 0))) := ⟨blk_alloc (by have := heap_alloc_new ((w.alloc (.cells #[.int .i64 x.f0, .int .i64 x.f1, .string x.f2, .slice A x.f3.length c] 58)).alloc (.cells #[.int .i64 0, .int .i64 0, .string ⟨#[]⟩, .slice none 0 0] 58)) (.cells #[.int .i64 0, .int .i64 0, .string ⟨#[]⟩, .slice none 0 0] 58); simpa using this) _⟩
  have HK5 : Aside0 (((((w.alloc (.cells #[.int .i64 x.f0, .int .i64 x.f1, .string x.f2, .slice A x.f3.length c] 58)).alloc (.cells #[.int .i64 0, .int .i64 0, .string ⟨#[]⟩, .slice none 0 0] 58)).alloc (.cells #[.int .i64 0, .int .i64 0, .string ⟨#[]⟩, .slice none 0 0] 58)).alloc (.cells #[.int .i64 0, .int .i64 0, .string ⟨#[]⟩, .slice none 0 0] 58)).heap[w.heap.size + 1 + 1 + 1]? = some (.cells #[.int .i64 0, .int .i64 0, .string ⟨#[]⟩, .slice none 0 0] 58 (0, 0))) := ⟨by have := heap_alloc_new (((w.alloc (.cells #[.int .i64 x.f0, .int .i64 x.f1, .string x.f2, .slice A x.f3.length c] 58)).alloc (.cells #[.int .i64 0, .int .i64 0, .string ⟨#[]⟩, .slice none 0 0] 58)).alloc (.cells #[.int .i64 0, .int .i64 0, .string ⟨#[]⟩, .slice none 0 0] 58)) (.cells #[.int .i64 0, .int .i64 0, .string ⟨#[]⟩, .slice none 0 0] 58); simpa using this⟩
  have HF := Aside0.mk (Kd.F_below hF HB0.out)
  have Hc := Aside0.mk hc
  have Hx := Aside0.mk hx
  have Hok := Aside0.mk hok
  clear hF hc hx hok
  have hcalls := Aside0.mk (chk_calls x (by have := Hx.out; omega) A c)
  rw [he] at hcalls
  clear he
  go_enter Try.func32, Try.ntmps32
  go_wp2_with fail
  generalize ((((w.alloc (.cells #[.int .i64 x.f0, .int .i64 x.f1, .string x.f2, .slice A x.f3.length c] 58)).alloc (.cells #[.int .i64 0, .int .i64 0, .string ⟨#[]⟩, .slice none 0 0] 58)).alloc (.cells #[.int .i64 0, .int .i64 0, .string ⟨#[]⟩, .slice none 0 0] 58)).alloc (.cells #[.int .i64 0, .int .i64 0, .string ⟨#[]⟩, .slice none 0 0] 58)) = w1 at *
  obtain ⟨g5, hg5⟩ : ∃ g5, g5 = w.heap.size + 1 + 1 + 1 := ⟨_, rfl⟩
  obtain ⟨g3, hg3⟩ : ∃ g3, g3 = w.heap.size + 1 + 1 := ⟨_, rfl⟩
  obtain ⟨g2, hg2⟩ : ∃ g2, g2 = w.heap.size + 1 := ⟨_, rfl⟩
  obtain ⟨g1, hg1⟩ : ∃ g1, g1 = w.heap.size := ⟨_, rfl⟩
  rw [← hg5] at HK5
  rw [← hg3] at HK3
  rw [← hg2] at HK2
  rw [← hg1] at HK1
  rw [← hg5, ← hg3, ← hg2, ← hg1]
  have HG := Aside0.mk (show g1 = w.heap.size ∧ g2 = w.heap.size + 1 ∧ g3 = w.heap.size + 1 + 1 ∧ g5 = w.heap.size + 1 + 1 + 1 from ⟨hg1, hg2, hg3, hg5⟩)
  clear hg1 hg2 hg3 hg5
  refine (hcalls.out _ (Kd.F_now HF.out)).mono ?_
  rintro e w2 ⟨rfl, hb⟩
  replace HB0 := Aside0.mk (below_step HB0.out hb)
  replace HK1 := Aside0.mk (blk_below HK1.out hb)
  replace HK2 := Aside0.mk (blk_below HK2.out hb)
  replace HK3 := Aside0.mk (blk_below HK3.out hb)
  replace HK5 := Aside0.mk (blk_below HK5.out hb)
  replace HF := Aside0.mk (Kd.F_below HF.out hb)
  clear hb w1
  have c10 : w2.cell? ⟨g1, 0, none⟩ = some (.int .i64 x.f0) := (blk_cell HK1.out 0).trans rfl
  have c11 : w2.cell? ⟨g1, 1, none⟩ = some (.int .i64 x.f1) := (blk_cell HK1.out 1).trans rfl
  have c12 : w2.cell? ⟨g1, 2, none⟩ = some (.string x.f2) := (blk_cell HK1.out 2).trans rfl
  have c13 : w2.cell? ⟨g1, 3, none⟩ = some (.slice A x.f3.length c) := (blk_cell HK1.out 3).trans rfl
  have HS2 := Aside0.mk (show w.heap.size + 3 < w2.heap.size by have := blk_lt HK5.out; have := HG.out; omega)
  replace HB0 := Aside0.mk (show Below w.heap.size w ((w2.alloc (.cells #[.int .i64 x.f0, .int .i64 x.f1, .string x.f2, .slice A x.f3.length c] 58)).alloc (.cells #[.int .i64 3, .int .i64 0, .string ⟨#[116, 114, 117, 101]⟩, .slice none 0 0] 58)) from below_alloc (below_alloc HB0.out _) _)
  replace HF := Aside0.mk (show Kd.F k58 ((w2.alloc (.cells #[.int .i64 x.f0, .int .i64 x.f1, .string x.f2, .slice A x.f3.length c] 58)).alloc (.cells #[.int .i64 3, .int .i64 0, .string ⟨#[116, 114, 117, 101]⟩, .slice none 0 0] 58)) ok A x.f3.length x.f3 from Kd.F_alloc (Kd.F_alloc HF.out _) _)
  replace HK1 := Aside0.mk (show ((w2.alloc (.cells #[.int .i64 x.f0, .int .i64 x.f1, .string x.f2, .slice A x.f3.length c] 58)).alloc (.cells #[.int .i64 3, .int .i64 0, .string ⟨#[116, 114, 117, 101]⟩, .slice none 0 0] 58)).heap[g1]? = _ from blk_alloc (blk_alloc HK1.out _) _)
  replace HK2 := Aside0.mk (show ((w2.alloc (.cells #[.int .i64 x.f0, .int .i64 x.f1, .string x.f2, .slice A x.f3.length c] 58)).alloc (.cells #[.int .i64 3, .int .i64 0, .string ⟨#[116, 114, 117, 101]⟩, .slice none 0 0] 58)).heap[g2]? = _ from blk_alloc (blk_alloc HK2.out _) _)
  replace HK3 := Aside0.mk (show ((w2.alloc (.cells #[.int .i64 x.f0, .int .i64 x.f1, .string x.f2, .slice A x.f3.length c] 58)).alloc (.cells #[.int .i64 3, .int .i64 0, .string ⟨#[116, 114, 117, 101]⟩, .slice none 0 0] 58)).heap[g3]? = _ from blk_alloc (blk_alloc HK3.out _) _)
  replace HK5 := Aside0.mk (show ((w2.alloc (.cells #[.int .i64 x.f0, .int .i64 x.f1, .string x.f2, .slice A x.f3.length c] 58)).alloc (.cells #[.int .i64 3, .int .i64 0, .string ⟨#[116, 114, 117, 101]⟩, .slice none 0 0] 58)).heap[g5]? = _ from blk_alloc (blk_alloc HK5.out _) _)
  have KP := Aside0.mk (show ((w2.alloc (.cells #[.int .i64 x.f0, .int .i64 x.f1, .string x.f2, .slice A x.f3.length c] 58)).alloc (.cells #[.int .i64 3, .int .i64 0, .string ⟨#[116, 114, 117, 101]⟩, .slice none 0 0] 58)).heap[w2.heap.size]? = some (.cells #[.int .i64 x.f0, .int .i64 x.f1, .string x.f2, .slice A x.f3.length c] 58 (0, 0)) from blk_alloc (heap_alloc_new _ _) _)
  have KB := Aside0.mk (show ((w2.alloc (.cells #[.int .i64 x.f0, .int .i64 x.f1, .string x.f2, .slice A x.f3.length c] 58)).alloc (.cells #[.int .i64 3, .int .i64 0, .string ⟨#[116, 114, 117, 101]⟩, .slice none 0 0] 58)).heap[w2.heap.size + 1]? = some (.cells #[.int .i64 3, .int .i64 0, .string ⟨#[116, 114, 117, 101]⟩, .slice none 0 0] 58 (0, 0)) from by have := heap_alloc_new (w2.alloc (.cells #[.int .i64 x.f0, .int .i64 x.f1, .string x.f2, .slice A x.f3.length c] 58)) (.cells #[.int .i64 3, .int .i64 0, .string ⟨#[116, 114, 117, 101]⟩, .slice none 0 0] 58); simpa using this)
  have d10 : ((w2.alloc (.cells #[.int .i64 x.f0, .int .i64 x.f1, .string x.f2, .slice A x.f3.length c] 58)).alloc (.cells #[.int .i64 3, .int .i64 0, .string ⟨#[116, 114, 117, 101]⟩, .slice none 0 0] 58)).cell? ⟨g1, 0, none⟩ = some (.int .i64 x.f0) := (blk_cell HK1.out 0).trans rfl
  have d11 : ((w2.alloc (.cells #[.int .i64 x.f0, .int .i64 x.f1, .string x.f2, .slice A x.f3.length c] 58)).alloc (.cells #[.int .i64 3, .int .i64 0, .string ⟨#[116, 114, 117, 101]⟩, .slice none 0 0] 58)).cell? ⟨g1, 1, none⟩ = some (.int .i64 x.f1) := (blk_cell HK1.out 1).trans rfl
  have d12 : ((w2.alloc (.cells #[.int .i64 x.f0, .int .i64 x.f1, .string x.f2, .slice A x.f3.length c] 58)).alloc (.cells #[.int .i64 3, .int .i64 0, .string ⟨#[116, 114, 117, 101]⟩, .slice none 0 0] 58)).cell? ⟨g1, 2, none⟩ = some (.string x.f2) := (blk_cell HK1.out 2).trans rfl
  have d13 : ((w2.alloc (.cells #[.int .i64 x.f0, .int .i64 x.f1, .string x.f2, .slice A x.f3.length c] 58)).alloc (.cells #[.int .i64 3, .int .i64 0, .string ⟨#[116, 114, 117, 101]⟩, .slice none 0 0] 58)).cell? ⟨g1, 3, none⟩ = some (.slice A x.f3.length c) := (blk_cell HK1.out 3).trans rfl
  obtain ⟨h, Ah, ch, hh, hAh, hch⟩ : ∃ (h : S58) (Ah : Option Addr) (ch : Nat), h = x ∧ Ah = A ∧ ch = c := ⟨_, _, _, rfl, rfl, rfl⟩
  obtain ⟨b, Ab, cb, hb_, hAb, hcb⟩ : ∃ (b : S58) (Ab : Option Addr) (cb : Nat), b = tTrue ∧ Ab = none ∧ cb = 0 := ⟨_, _, _, rfl, rfl, rfl⟩
  replace KP := Aside0.mk (show ((w2.alloc (.cells #[.int .i64 x.f0, .int .i64 x.f1, .string x.f2, .slice A x.f3.length c] 58)).alloc (.cells #[.int .i64 3, .int .i64 0, .string ⟨#[116, 114, 117, 101]⟩, .slice none 0 0] 58)).heap[w2.heap.size]? = some (.cells #[.int .i64 h.f0, .int .i64 h.f1, .string h.f2, .slice Ah h.f3.length ch] 58 (0, 0)) from by rw [hh, hAh, hch]; exact KP.out)
  replace KB := Aside0.mk (show ((w2.alloc (.cells #[.int .i64 x.f0, .int .i64 x.f1, .string x.f2, .slice A x.f3.length c] 58)).alloc (.cells #[.int .i64 3, .int .i64 0, .string ⟨#[116, 114, 117, 101]⟩, .slice none 0 0] 58)).heap[w2.heap.size + 1]? = some (.cells #[.int .i64 b.f0, .int .i64 b.f1, .string b.f2, .slice Ab b.f3.length cb] 58 (0, 0)) from by rw [hb_, hAb, hcb]; exact KB.out)
  have FH := Aside0.mk (show Kd.F k58 ((w2.alloc (.cells #[.int .i64 x.f0, .int .i64 x.f1, .string x.f2, .slice A x.f3.length c] 58)).alloc (.cells #[.int .i64 3, .int .i64 0, .string ⟨#[116, 114, 117, 101]⟩, .slice none 0 0] 58)) ok Ah h.f3.length h.f3 from by rw [hh, hAh]; exact HF.out)
  have FB := Aside0.mk (show Kd.F k58 ((w2.alloc (.cells #[.int .i64 x.f0, .int .i64 x.f1, .string x.f2, .slice A x.f3.length c] 58)).alloc (.cells #[.int .i64 3, .int .i64 0, .string ⟨#[116, 114, 117, 101]⟩, .slice none 0 0] 58)) ok Ab b.f3.length b.f3 from by rw [hb_, hAb]; exact Kd.F_nil _ _ _)
  have CH := Aside0.mk (show h.f3.length ≤ ch from by rw [hh, hch]; exact Hc.out)
  have CB := Aside0.mk (show b.f3.length ≤ cb from by rw [hb_, hcb]; exact Nat.le_refl 0)
  have SH := Aside0.mk (show szT h ≤ 400000 from by rw [hh]; exact Hx.out)
  have SB := Aside0.mk (show szT b ≤ 400000 from by rw [hb_]; unfold tTrue; simp [szT, szL])
  replace HV := Aside0.mk (show clauseR x = clauseHBR h b from by rw [HV.out, hh, hb_])
  have d70 : ((w2.alloc (.cells #[.int .i64 x.f0, .int .i64 x.f1, .string x.f2, .slice A x.f3.length c] 58)).alloc (.cells #[.int .i64 3, .int .i64 0, .string ⟨#[116, 114, 117, 101]⟩, .slice none 0 0] 58)).cell? ⟨w2.heap.size, 0, none⟩ = some (.int .i64 h.f0) := (blk_cell KP.out 0).trans rfl
  have d71 : ((w2.alloc (.cells #[.int .i64 x.f0, .int .i64 x.f1, .string x.f2, .slice A x.f3.length c] 58)).alloc (.cells #[.int .i64 3, .int .i64 0, .string ⟨#[116, 114, 117, 101]⟩, .slice none 0 0] 58)).cell? ⟨w2.heap.size, 1, none⟩ = some (.int .i64 h.f1) := (blk_cell KP.out 1).trans rfl
  have d72 : ((w2.alloc (.cells #[.int .i64 x.f0, .int .i64 x.f1, .string x.f2, .slice A x.f3.length c] 58)).alloc (.cells #[.int .i64 3, .int .i64 0, .string ⟨#[116, 114, 117, 101]⟩, .slice none 0 0] 58)).cell? ⟨w2.heap.size, 2, none⟩ = some (.string h.f2) := (blk_cell KP.out 2).trans rfl
  have d73 : ((w2.alloc (.cells #[.int .i64 x.f0, .int .i64 x.f1, .string x.f2, .slice A x.f3.length c] 58)).alloc (.cells #[.int .i64 3, .int .i64 0, .string ⟨#[116, 114, 117, 101]⟩, .slice none 0 0] 58)).cell? ⟨w2.heap.size, 3, none⟩ = some (.slice Ah h.f3.length ch) := (blk_cell KP.out 3).trans rfl
  have d80 : ((w2.alloc (.cells #[.int .i64 x.f0, .int .i64 x.f1, .string x.f2, .slice A x.f3.length c] 58)).alloc (.cells #[.int .i64 3, .int .i64 0, .string ⟨#[116, 114, 117, 101]⟩, .slice none 0 0] 58)).cell? ⟨w2.heap.size + 1, 0, none⟩ = some (.int .i64 b.f0) := (blk_cell KB.out 0).trans rfl
  have d81 : ((w2.alloc (.cells #[.int .i64 x.f0, .int .i64 x.f1, .string x.f2, .slice A x.f3.length c] 58)).alloc (.cells #[.int .i64 3, .int .i64 0, .string ⟨#[116, 114, 117, 101]⟩, .slice none 0 0] 58)).cell? ⟨w2.heap.size + 1, 1, none⟩ = some (.int .i64 b.f1) := (blk_cell KB.out 1).trans rfl
  have d82 : ((w2.alloc (.cells #[.int .i64 x.f0, .int .i64 x.f1, .string x.f2, .slice A x.f3.length c] 58)).alloc (.cells #[.int .i64 3, .int .i64 0, .string ⟨#[116, 114, 117, 101]⟩, .slice none 0 0] 58)).cell? ⟨w2.heap.size + 1, 2, none⟩ = some (.string b.f2) := (blk_cell KB.out 2).trans rfl
  have d83 : ((w2.alloc (.cells #[.int .i64 x.f0, .int .i64 x.f1, .string x.f2, .slice A x.f3.length c] 58)).alloc (.cells #[.int .i64 3, .int .i64 0, .string ⟨#[116, 114, 117, 101]⟩, .slice none 0 0] 58)).cell? ⟨w2.heap.size + 1, 3, none⟩ = some (.slice Ab b.f3.length cb) := (blk_cell KB.out 3).trans rfl
  have SZ4 := Aside0.mk (show w2.heap.size ≤ (((w2.alloc (.cells #[.int .i64 x.f0, .int .i64 x.f1, .string x.f2, .slice A x.f3.length c] 58)).alloc (.cells #[.int .i64 3, .int .i64 0, .string ⟨#[116, 114, 117, 101]⟩, .slice none 0 0] 58))).heap.size by rw [al_sz, al_sz]; omega)
  have SZ42 := Aside0.mk (show w2.heap.size + 2 ≤ (((w2.alloc (.cells #[.int .i64 x.f0, .int .i64 x.f1, .string x.f2, .slice A x.f3.length c] 58)).alloc (.cells #[.int .i64 3, .int .i64 0, .string ⟨#[116, 114, 117, 101]⟩, .slice none 0 0] 58))).heap.size by rw [al_sz, al_sz]; omega)
  clear hh hAh hch hb_ hAb hcb
  rcases case5 h.f0 (bodyR b).1 with hp | hp | ⟨hp, hE⟩ | ⟨hp, hE⟩ | ⟨hp, hE⟩
  · skip
    replace HV := Aside0.mk (show clauseR x = ⟨z58, z58, 12, z58⟩ by rw [HV.out]; unfold clauseHBR; rw [if_pos hp])
    have q1 : (h.f0 == 1) = true := by simpa using hp
    clear hp
    rcases HI.out with hi0 | ⟨hi0, hi1⟩ | ⟨hi0, hi1, hi2⟩
    all_goals (
      go_wp2_with fail
      have B_H := HK2.out
      have B_R := HK3.out
      have B_W := HK5.out
      have HB := HB0.out
      generalize ((w2.alloc (.cells #[.int .i64 x.f0, .int .i64 x.f1, .string x.f2, .slice A x.f3.length c] 58)).alloc (.cells #[.int .i64 3, .int .i64 0, .string ⟨#[116, 114, 117, 101]⟩, .slice none 0 0] 58)) = y0 at *
      refine start_ (n := 7) (S := fun w' => w'.cell? ⟨g2, 0, none⟩ = some (.int .i64 0) ∧ w'.cell? ⟨g2, 1, none⟩ = some (.int .i64 0) ∧ w'.cell? ⟨g2, 2, none⟩ = some (.string ⟨#[]⟩) ∧ w'.cell? ⟨g2, 3, none⟩ = some (.slice none 0 0) ∧ w'.cell? ⟨g3, 0, none⟩ = some (.int .i64 0) ∧ w'.cell? ⟨g3, 1, none⟩ = some (.int .i64 0) ∧ w'.cell? ⟨g3, 2, none⟩ = some (.string ⟨#[]⟩) ∧ w'.cell? ⟨g3, 3, none⟩ = some (.slice none 0 0) ∧ w'.cell? ⟨g5, 0, none⟩ = some (.int .i64 0) ∧ w'.cell? ⟨g5, 1, none⟩ = some (.int .i64 0) ∧ w'.cell? ⟨g5, 2, none⟩ = some (.string ⟨#[]⟩) ∧ w'.cell? ⟨g5, 3, none⟩ = some (.slice none 0 0)) (ds := []) #[false, false, false, false, false, false, false] (by kernel_rfl) rfl rfl ⟨(blk_cell (blk_drew B_H) 0).trans rfl, (blk_cell (blk_drew B_H) 1).trans rfl, (blk_cell (blk_drew B_H) 2).trans rfl, (blk_cell (blk_drew B_H) 3).trans rfl, (blk_cell (blk_drew B_R) 0).trans rfl, (blk_cell (blk_drew B_R) 1).trans rfl, (blk_cell (blk_drew B_R) 2).trans rfl, (blk_cell (blk_drew B_R) 3).trans rfl, (blk_cell (blk_drew B_W) 0).trans rfl, (blk_cell (blk_drew B_W) 1).trans rfl, (blk_cell (blk_drew B_W) 2).trans rfl, (blk_cell (blk_drew B_W) 3).trans rfl⟩ (fun hHeld => ?_)
      replace B_H := blk_drew B_H
      replace B_R := blk_drew B_R
      replace B_W := blk_drew B_W
      replace HB := HB.drew
      generalize y0.drew = v0 at *
      have HS : ∀ q, q ≠ g2 → q ≠ g3 → q ≠ g5 → v0.heap[q]? = v0.heap[q]? := fun _ _ _ _ => rfl
      refine take_ (i := 0) (N := some 46) (v := ?_) (a' := ?_) #[true, false, false, false, false, false, false] rfl rfl (by kernel_rfl) (fun _ _ _ h => h) (Or.inl ⟨by rfl, ?_⟩) hHeld ?_ ?_
      rotate_left
      · rintro w' ⟨s0, s1, s2, s3, s4, s5, s6, s7, s8, s9, s10, s11⟩
        go_simp
        with_reducible rfl
      rotate_left
      · simp only [Act.put, List.setIfInBounds_toArray, List.set_cons_zero, List.set_cons_succ, i64_w, i32_w]
        rfl
      refine take_ (i := 1) (N := some 47) (v := ?_) (a' := ?_) #[true, true, false, false, false, false, false] rfl rfl (by kernel_rfl) (fun _ _ _ h => h) (Or.inl ⟨by rfl, ?_⟩) hHeld ?_ ?_
      rotate_left
      · rintro w' ⟨s0, s1, s2, s3, s4, s5, s6, s7, s8, s9, s10, s11⟩
        go_simp
        with_reducible rfl
      rotate_left
      · simp only [Act.put, List.setIfInBounds_toArray, List.set_cons_zero, List.set_cons_succ, i64_w, i32_w]
        rfl
      refine take_ (i := 2) (N := some 48) (v := ?_) (a' := ?_) #[true, true, true, false, false, false, false] rfl rfl (by kernel_rfl) (fun _ _ _ h => h) (Or.inl ⟨by rfl, ?_⟩) hHeld ?_ ?_
      rotate_left
      · rintro w' ⟨s0, s1, s2, s3, s4, s5, s6, s7, s8, s9, s10, s11⟩
        go_simp
        with_reducible rfl
      rotate_left
      · simp only [Act.put, List.setIfInBounds_toArray, List.set_cons_zero, List.set_cons_succ, i64_w, i32_w]
        rfl
      refine one_ (i := 3) (N := none) #[true, true, true, true, false, false, false] rfl rfl (by kernel_rfl) (by decide) (fun K hK => ?_)
      have hst_ : (Instr.storeAt 58 (.pointer (some ⟨g2, 0, none⟩)) (.agg #[.int .i64 0, .int .i64 0, .string ⟨#[]⟩, .slice none 0 0])).run Try.prog v0 = .ok () ((((v0.setCell ⟨g2, 0, none⟩ (.int .i64 0)).setCell ⟨g2, 1, none⟩ (.int .i64 0)).setCell ⟨g2, 2, none⟩ (.string ⟨#[]⟩)).setCell ⟨g2, 3, none⟩ (.slice none 0 0)) := store4 B_H
      refine skip_ (by rfl) rfl (w1 := ((((v0.setCell ⟨g2, 0, none⟩ (.int .i64 0)).setCell ⟨g2, 1, none⟩ (.int .i64 0)).setCell ⟨g2, 2, none⟩ (.string ⟨#[]⟩)).setCell ⟨g2, 3, none⟩ (.slice none 0 0))) (ins_st hst_) ?_
      clear hst_
      obtain ⟨s1_, s2_, s3_⟩ := set4 (.int .i64 0) (.int .i64 0) (.string ⟨#[]⟩) (.slice none 0 0) B_H
      replace HB := s3_ _ _ HB (by have := HG.out; have := HS2.out; omega)
      replace B_R := (s2_ _ (by have := HG.out; have := HS2.out; omega)).trans B_R
      replace B_W := (s2_ _ (by have := HG.out; have := HS2.out; omega)).trans B_W
      replace B_H := s1_
      replace HS : ∀ q, q ≠ g2 → q ≠ g3 → q ≠ g5 → _ = v0.heap[q]? := fun q h2_ h3_ h5_ => (s2_ q (by assumption)).trans (HS q h2_ h3_ h5_)
      clear s1_ s2_ s3_
      generalize ((((v0.setCell ⟨g2, 0, none⟩ (.int .i64 0)).setCell ⟨g2, 1, none⟩ (.int .i64 0)).setCell ⟨g2, 2, none⟩ (.string ⟨#[]⟩)).setCell ⟨g2, 3, none⟩ (.slice none 0 0)) = v1 at *
      refine hK.out _ _ ⟨(blk_cell B_H 0).trans rfl, (blk_cell B_H 1).trans rfl, (blk_cell B_H 2).trans rfl, (blk_cell B_H 3).trans rfl, (blk_cell B_R 0).trans rfl, (blk_cell B_R 1).trans rfl, (blk_cell B_R 2).trans rfl, (blk_cell B_R 3).trans rfl, (blk_cell B_W 0).trans rfl, (blk_cell B_W 1).trans rfl, (blk_cell B_W 2).trans rfl, (blk_cell B_W 3).trans rfl⟩ (fun hHeld => ?_)
      clear hK K
      refine one_ (i := 4) (N := none) #[true, true, true, true, true, false, false] rfl rfl (by kernel_rfl) (by decide) (fun K hK => ?_)
      have hst_ : (Instr.storeAt 58 (.pointer (some ⟨g3, 0, none⟩)) (.agg #[.int .i64 0, .int .i64 0, .string ⟨#[]⟩, .slice none 0 0])).run Try.prog v1 = .ok () ((((v1.setCell ⟨g3, 0, none⟩ (.int .i64 0)).setCell ⟨g3, 1, none⟩ (.int .i64 0)).setCell ⟨g3, 2, none⟩ (.string ⟨#[]⟩)).setCell ⟨g3, 3, none⟩ (.slice none 0 0)) := store4 B_R
      refine skip_ (by rfl) rfl (w1 := ((((v1.setCell ⟨g3, 0, none⟩ (.int .i64 0)).setCell ⟨g3, 1, none⟩ (.int .i64 0)).setCell ⟨g3, 2, none⟩ (.string ⟨#[]⟩)).setCell ⟨g3, 3, none⟩ (.slice none 0 0))) (ins_st hst_) ?_
      clear hst_
      obtain ⟨s1_, s2_, s3_⟩ := set4 (.int .i64 0) (.int .i64 0) (.string ⟨#[]⟩) (.slice none 0 0) B_R
      replace HB := s3_ _ _ HB (by have := HG.out; have := HS2.out; omega)
      replace B_H := (s2_ _ (by have := HG.out; have := HS2.out; omega)).trans B_H
      replace B_W := (s2_ _ (by have := HG.out; have := HS2.out; omega)).trans B_W
      replace B_R := s1_
      replace HS : ∀ q, q ≠ g2 → q ≠ g3 → q ≠ g5 → _ = v0.heap[q]? := fun q h2_ h3_ h5_ => (s2_ q (by assumption)).trans (HS q h2_ h3_ h5_)
      clear s1_ s2_ s3_
      generalize ((((v1.setCell ⟨g3, 0, none⟩ (.int .i64 0)).setCell ⟨g3, 1, none⟩ (.int .i64 0)).setCell ⟨g3, 2, none⟩ (.string ⟨#[]⟩)).setCell ⟨g3, 3, none⟩ (.slice none 0 0)) = v2 at *
      refine hK.out _ _ ⟨(blk_cell B_H 0).trans rfl, (blk_cell B_H 1).trans rfl, (blk_cell B_H 2).trans rfl, (blk_cell B_H 3).trans rfl, (blk_cell B_R 0).trans rfl, (blk_cell B_R 1).trans rfl, (blk_cell B_R 2).trans rfl, (blk_cell B_R 3).trans rfl, (blk_cell B_W 0).trans rfl, (blk_cell B_W 1).trans rfl, (blk_cell B_W 2).trans rfl, (blk_cell B_W 3).trans rfl⟩ (fun hHeld => ?_)
      clear hK K
      refine pure_ (i := 5) (N := some 4) (v := ?_) (a' := ?_) #[true, true, true, true, true, true, false] rfl rfl (by kernel_rfl) (fun _ _ _ h => h) (Or.inl ⟨by rfl, ?_⟩) ?_ ?_
      rotate_left
      · intro w'
        go_simp
        with_reducible rfl
      rotate_left
      · simp only [Act.put, List.setIfInBounds_toArray, List.set_cons_zero, List.set_cons_succ, i64_w, i32_w]
        rfl
      refine one_ (i := 6) (N := none) #[true, true, true, true, true, true, true] rfl rfl (by kernel_rfl) (by decide) (fun K hK => ?_)
      have hst_ : (Instr.storeAt 58 (.pointer (some ⟨g5, 0, none⟩)) (.agg #[.int .i64 0, .int .i64 0, .string ⟨#[]⟩, .slice none 0 0])).run Try.prog v2 = .ok () ((((v2.setCell ⟨g5, 0, none⟩ (.int .i64 0)).setCell ⟨g5, 1, none⟩ (.int .i64 0)).setCell ⟨g5, 2, none⟩ (.string ⟨#[]⟩)).setCell ⟨g5, 3, none⟩ (.slice none 0 0)) := store4 B_W
      refine skip_ (by rfl) rfl (w1 := ((((v2.setCell ⟨g5, 0, none⟩ (.int .i64 0)).setCell ⟨g5, 1, none⟩ (.int .i64 0)).setCell ⟨g5, 2, none⟩ (.string ⟨#[]⟩)).setCell ⟨g5, 3, none⟩ (.slice none 0 0))) (ins_st hst_) ?_
      clear hst_
      obtain ⟨s1_, s2_, s3_⟩ := set4 (.int .i64 0) (.int .i64 0) (.string ⟨#[]⟩) (.slice none 0 0) B_W
      replace HB := s3_ _ _ HB (by have := HG.out; have := HS2.out; omega)
      replace B_H := (s2_ _ (by have := HG.out; have := HS2.out; omega)).trans B_H
      replace B_R := (s2_ _ (by have := HG.out; have := HS2.out; omega)).trans B_R
      replace B_W := s1_
      replace HS : ∀ q, q ≠ g2 → q ≠ g3 → q ≠ g5 → _ = v0.heap[q]? := fun q h2_ h3_ h5_ => (s2_ q (by assumption)).trans (HS q h2_ h3_ h5_)
      clear s1_ s2_ s3_
      generalize ((((v2.setCell ⟨g5, 0, none⟩ (.int .i64 0)).setCell ⟨g5, 1, none⟩ (.int .i64 0)).setCell ⟨g5, 2, none⟩ (.string ⟨#[]⟩)).setCell ⟨g5, 3, none⟩ (.slice none 0 0)) = v3 at *
      refine hK.out _ _ ⟨(blk_cell B_H 0).trans rfl, (blk_cell B_H 1).trans rfl, (blk_cell B_H 2).trans rfl, (blk_cell B_H 3).trans rfl, (blk_cell B_R 0).trans rfl, (blk_cell B_R 1).trans rfl, (blk_cell B_R 2).trans rfl, (blk_cell B_R 3).trans rfl, (blk_cell B_W 0).trans rfl, (blk_cell B_W 1).trans rfl, (blk_cell B_W 2).trans rfl, (blk_cell B_W 3).trans rfl⟩ (fun hHeld => ?_)
      clear hK K
      refine done_ (by kernel_rfl) ?_
      go_wp2_with fail
      refine bodyPost_ret (res32 (by rfl) (by rfl) (by rfl) (by rfl) B_H B_R B_W) rfl ?_
      exact ⟨_, _, _, by rw [HV.out], by rw [HV.out]; exact TM_z _ _, by rw [HV.out]; exact TM_z _ _, by rw [HV.out]; exact TM_z _ _, HB⟩)
  · skip
    replace HV := Aside0.mk (show clauseR x = ⟨z58, z58, 13, h⟩ by rw [HV.out]; unfold clauseHBR; rw [if_neg (by omega), if_pos hp])
    have q1 : (h.f0 == 1) = false := by simpa using (by omega : ¬ h.f0 = 1)
    have q2 : (h.f0 == 2) = true := by simpa using hp
    clear hp
    rcases HI.out with hi0 | ⟨hi0, hi1⟩ | ⟨hi0, hi1, hi2⟩
    all_goals (
      go_wp2_with fail
      have B_H := HK2.out
      have B_R := HK3.out
      have B_W := HK5.out
      have HB := HB0.out
      have B_P := KP.out
      have F_h := FH.out
      generalize ((w2.alloc (.cells #[.int .i64 x.f0, .int .i64 x.f1, .string x.f2, .slice A x.f3.length c] 58)).alloc (.cells #[.int .i64 3, .int .i64 0, .string ⟨#[116, 114, 117, 101]⟩, .slice none 0 0] 58)) = y0 at *
      refine start_ (n := 7) (S := fun w' => w'.cell? ⟨g2, 0, none⟩ = some (.int .i64 0) ∧ w'.cell? ⟨g2, 1, none⟩ = some (.int .i64 0) ∧ w'.cell? ⟨g2, 2, none⟩ = some (.string ⟨#[]⟩) ∧ w'.cell? ⟨g2, 3, none⟩ = some (.slice none 0 0) ∧ w'.cell? ⟨g3, 0, none⟩ = some (.int .i64 0) ∧ w'.cell? ⟨g3, 1, none⟩ = some (.int .i64 0) ∧ w'.cell? ⟨g3, 2, none⟩ = some (.string ⟨#[]⟩) ∧ w'.cell? ⟨g3, 3, none⟩ = some (.slice none 0 0) ∧ w'.cell? ⟨w2.heap.size, 0, none⟩ = some (.int .i64 h.f0) ∧ w'.cell? ⟨w2.heap.size, 1, none⟩ = some (.int .i64 h.f1) ∧ w'.cell? ⟨w2.heap.size, 2, none⟩ = some (.string h.f2) ∧ w'.cell? ⟨w2.heap.size, 3, none⟩ = some (.slice Ah h.f3.length ch)) (ds := []) #[false, false, false, false, false, false, false] (by kernel_rfl) rfl rfl ⟨(blk_cell (blk_drew B_H) 0).trans rfl, (blk_cell (blk_drew B_H) 1).trans rfl, (blk_cell (blk_drew B_H) 2).trans rfl, (blk_cell (blk_drew B_H) 3).trans rfl, (blk_cell (blk_drew B_R) 0).trans rfl, (blk_cell (blk_drew B_R) 1).trans rfl, (blk_cell (blk_drew B_R) 2).trans rfl, (blk_cell (blk_drew B_R) 3).trans rfl, (blk_cell (blk_drew B_P) 0).trans rfl, (blk_cell (blk_drew B_P) 1).trans rfl, (blk_cell (blk_drew B_P) 2).trans rfl, (blk_cell (blk_drew B_P) 3).trans rfl⟩ (fun hHeld => ?_)
      replace B_H := blk_drew B_H
      replace B_R := blk_drew B_R
      replace B_W := blk_drew B_W
      replace B_P := blk_drew B_P
      replace HB := HB.drew
      replace F_h := Kd.F_drew F_h
      generalize y0.drew = v0 at *
      have HS : ∀ q, q ≠ g2 → q ≠ g3 → q ≠ g5 → v0.heap[q]? = v0.heap[q]? := fun _ _ _ _ => rfl
      refine take_ (i := 0) (N := some 51) (v := ?_) (a' := ?_) #[true, false, false, false, false, false, false] rfl rfl (by kernel_rfl) (fun _ _ _ h => h) (Or.inl ⟨by rfl, ?_⟩) hHeld ?_ ?_
      rotate_left
      · rintro w' ⟨s0, s1, s2, s3, s4, s5, s6, s7, s8, s9, s10, s11⟩
        go_simp
        with_reducible rfl
      rotate_left
      · simp only [Act.put, List.setIfInBounds_toArray, List.set_cons_zero, List.set_cons_succ, i64_w, i32_w]
        rfl
      refine take_ (i := 1) (N := some 52) (v := ?_) (a' := ?_) #[true, true, false, false, false, false, false] rfl rfl (by kernel_rfl) (fun _ _ _ h => h) (Or.inl ⟨by rfl, ?_⟩) hHeld ?_ ?_
      rotate_left
      · rintro w' ⟨s0, s1, s2, s3, s4, s5, s6, s7, s8, s9, s10, s11⟩
        go_simp
        with_reducible rfl
      rotate_left
      · simp only [Act.put, List.setIfInBounds_toArray, List.set_cons_zero, List.set_cons_succ, i64_w, i32_w]
        rfl
      refine take_ (i := 2) (N := some 53) (v := ?_) (a' := ?_) #[true, true, true, false, false, false, false] rfl rfl (by kernel_rfl) (fun _ _ _ h => h) (Or.inl ⟨by rfl, ?_⟩) hHeld ?_ ?_
      rotate_left
      · rintro w' ⟨s0, s1, s2, s3, s4, s5, s6, s7, s8, s9, s10, s11⟩
        go_simp
        with_reducible rfl
      rotate_left
      · simp only [Act.put, List.setIfInBounds_toArray, List.set_cons_zero, List.set_cons_succ, i64_w, i32_w]
        rfl
      refine one_ (i := 3) (N := none) #[true, true, true, true, false, false, false] rfl rfl (by kernel_rfl) (by decide) (fun K hK => ?_)
      have hst_ : (Instr.storeAt 58 (.pointer (some ⟨g2, 0, none⟩)) (.agg #[.int .i64 0, .int .i64 0, .string ⟨#[]⟩, .slice none 0 0])).run Try.prog v0 = .ok () ((((v0.setCell ⟨g2, 0, none⟩ (.int .i64 0)).setCell ⟨g2, 1, none⟩ (.int .i64 0)).setCell ⟨g2, 2, none⟩ (.string ⟨#[]⟩)).setCell ⟨g2, 3, none⟩ (.slice none 0 0)) := store4 B_H
      refine skip_ (by rfl) rfl (w1 := ((((v0.setCell ⟨g2, 0, none⟩ (.int .i64 0)).setCell ⟨g2, 1, none⟩ (.int .i64 0)).setCell ⟨g2, 2, none⟩ (.string ⟨#[]⟩)).setCell ⟨g2, 3, none⟩ (.slice none 0 0))) (ins_st hst_) ?_
      clear hst_
      obtain ⟨s1_, s2_, s3_⟩ := set4 (.int .i64 0) (.int .i64 0) (.string ⟨#[]⟩) (.slice none 0 0) B_H
      replace HB := s3_ _ _ HB (by have := HG.out; have := HS2.out; omega)
      replace B_R := (s2_ _ (by have := HG.out; have := HS2.out; omega)).trans B_R
      replace B_W := (s2_ _ (by have := HG.out; have := HS2.out; omega)).trans B_W
      replace B_P := (s2_ _ (by have := HG.out; have := HS2.out; omega)).trans B_P
      replace B_H := s1_
      replace HS : ∀ q, q ≠ g2 → q ≠ g3 → q ≠ g5 → _ = v0.heap[q]? := fun q h2_ h3_ h5_ => (s2_ q (by assumption)).trans (HS q h2_ h3_ h5_)
      clear s1_ s2_ s3_
      generalize ((((v0.setCell ⟨g2, 0, none⟩ (.int .i64 0)).setCell ⟨g2, 1, none⟩ (.int .i64 0)).setCell ⟨g2, 2, none⟩ (.string ⟨#[]⟩)).setCell ⟨g2, 3, none⟩ (.slice none 0 0)) = v1 at *
      refine hK.out _ _ ⟨(blk_cell B_H 0).trans rfl, (blk_cell B_H 1).trans rfl, (blk_cell B_H 2).trans rfl, (blk_cell B_H 3).trans rfl, (blk_cell B_R 0).trans rfl, (blk_cell B_R 1).trans rfl, (blk_cell B_R 2).trans rfl, (blk_cell B_R 3).trans rfl, (blk_cell B_P 0).trans rfl, (blk_cell B_P 1).trans rfl, (blk_cell B_P 2).trans rfl, (blk_cell B_P 3).trans rfl⟩ (fun hHeld => ?_)
      clear hK K
      refine one_ (i := 4) (N := none) #[true, true, true, true, true, false, false] rfl rfl (by kernel_rfl) (by decide) (fun K hK => ?_)
      have hst_ : (Instr.storeAt 58 (.pointer (some ⟨g3, 0, none⟩)) (.agg #[.int .i64 0, .int .i64 0, .string ⟨#[]⟩, .slice none 0 0])).run Try.prog v1 = .ok () ((((v1.setCell ⟨g3, 0, none⟩ (.int .i64 0)).setCell ⟨g3, 1, none⟩ (.int .i64 0)).setCell ⟨g3, 2, none⟩ (.string ⟨#[]⟩)).setCell ⟨g3, 3, none⟩ (.slice none 0 0)) := store4 B_R
      refine skip_ (by rfl) rfl (w1 := ((((v1.setCell ⟨g3, 0, none⟩ (.int .i64 0)).setCell ⟨g3, 1, none⟩ (.int .i64 0)).setCell ⟨g3, 2, none⟩ (.string ⟨#[]⟩)).setCell ⟨g3, 3, none⟩ (.slice none 0 0))) (ins_st hst_) ?_
      clear hst_
      obtain ⟨s1_, s2_, s3_⟩ := set4 (.int .i64 0) (.int .i64 0) (.string ⟨#[]⟩) (.slice none 0 0) B_R
      replace HB := s3_ _ _ HB (by have := HG.out; have := HS2.out; omega)
      replace B_H := (s2_ _ (by have := HG.out; have := HS2.out; omega)).trans B_H
      replace B_W := (s2_ _ (by have := HG.out; have := HS2.out; omega)).trans B_W
      replace B_P := (s2_ _ (by have := HG.out; have := HS2.out; omega)).trans B_P
      replace B_R := s1_
      replace HS : ∀ q, q ≠ g2 → q ≠ g3 → q ≠ g5 → _ = v0.heap[q]? := fun q h2_ h3_ h5_ => (s2_ q (by assumption)).trans (HS q h2_ h3_ h5_)
      clear s1_ s2_ s3_
      generalize ((((v1.setCell ⟨g3, 0, none⟩ (.int .i64 0)).setCell ⟨g3, 1, none⟩ (.int .i64 0)).setCell ⟨g3, 2, none⟩ (.string ⟨#[]⟩)).setCell ⟨g3, 3, none⟩ (.slice none 0 0)) = v2 at *
      refine hK.out _ _ ⟨(blk_cell B_H 0).trans rfl, (blk_cell B_H 1).trans rfl, (blk_cell B_H 2).trans rfl, (blk_cell B_H 3).trans rfl, (blk_cell B_R 0).trans rfl, (blk_cell B_R 1).trans rfl, (blk_cell B_R 2).trans rfl, (blk_cell B_R 3).trans rfl, (blk_cell B_P 0).trans rfl, (blk_cell B_P 1).trans rfl, (blk_cell B_P 2).trans rfl, (blk_cell B_P 3).trans rfl⟩ (fun hHeld => ?_)
      clear hK K
      refine pure_ (i := 5) (N := some 4) (v := ?_) (a' := ?_) #[true, true, true, true, true, true, false] rfl rfl (by kernel_rfl) (fun _ _ _ h => h) (Or.inl ⟨by rfl, ?_⟩) ?_ ?_
      rotate_left
      · intro w'
        go_simp
        with_reducible rfl
      rotate_left
      · simp only [Act.put, List.setIfInBounds_toArray, List.set_cons_zero, List.set_cons_succ, i64_w, i32_w]
        rfl
      refine one_ (i := 6) (N := none) #[true, true, true, true, true, true, true] rfl rfl (by kernel_rfl) (by decide) (fun K hK => ?_)
      have hst_ : (Instr.storeAt 58 (.pointer (some ⟨g5, 0, none⟩)) (.agg #[.int .i64 h.f0, .int .i64 h.f1, .string h.f2, .slice Ah h.f3.length ch])).run Try.prog v2 = .ok () ((((v2.setCell ⟨g5, 0, none⟩ (.int .i64 h.f0)).setCell ⟨g5, 1, none⟩ (.int .i64 h.f1)).setCell ⟨g5, 2, none⟩ (.string h.f2)).setCell ⟨g5, 3, none⟩ (.slice Ah h.f3.length ch)) := store4 B_W
      refine skip_ (by rfl) rfl (w1 := ((((v2.setCell ⟨g5, 0, none⟩ (.int .i64 h.f0)).setCell ⟨g5, 1, none⟩ (.int .i64 h.f1)).setCell ⟨g5, 2, none⟩ (.string h.f2)).setCell ⟨g5, 3, none⟩ (.slice Ah h.f3.length ch))) (ins_st hst_) ?_
      clear hst_
      obtain ⟨s1_, s2_, s3_⟩ := set4 (.int .i64 h.f0) (.int .i64 h.f1) (.string h.f2) (.slice Ah h.f3.length ch) B_W
      replace HB := s3_ _ _ HB (by have := HG.out; have := HS2.out; omega)
      replace B_H := (s2_ _ (by have := HG.out; have := HS2.out; omega)).trans B_H
      replace B_R := (s2_ _ (by have := HG.out; have := HS2.out; omega)).trans B_R
      replace B_P := (s2_ _ (by have := HG.out; have := HS2.out; omega)).trans B_P
      replace B_W := s1_
      replace HS : ∀ q, q ≠ g2 → q ≠ g3 → q ≠ g5 → _ = v0.heap[q]? := fun q h2_ h3_ h5_ => (s2_ q (by assumption)).trans (HS q h2_ h3_ h5_)
      clear s1_ s2_ s3_
      generalize ((((v2.setCell ⟨g5, 0, none⟩ (.int .i64 h.f0)).setCell ⟨g5, 1, none⟩ (.int .i64 h.f1)).setCell ⟨g5, 2, none⟩ (.string h.f2)).setCell ⟨g5, 3, none⟩ (.slice Ah h.f3.length ch)) = v3 at *
      refine hK.out _ _ ⟨(blk_cell B_H 0).trans rfl, (blk_cell B_H 1).trans rfl, (blk_cell B_H 2).trans rfl, (blk_cell B_H 3).trans rfl, (blk_cell B_R 0).trans rfl, (blk_cell B_R 1).trans rfl, (blk_cell B_R 2).trans rfl, (blk_cell B_R 3).trans rfl, (blk_cell B_P 0).trans rfl, (blk_cell B_P 1).trans rfl, (blk_cell B_P 2).trans rfl, (blk_cell B_P 3).trans rfl⟩ (fun hHeld => ?_)
      clear hK K
      refine done_ (by kernel_rfl) ?_
      go_wp2_with fail
      refine bodyPost_ret (res32 (by rfl) (by rfl) (by rfl) (by rfl) B_H B_R B_W) rfl ?_
      exact ⟨_, _, _, by rw [HV.out], by rw [HV.out]; exact TM_z _ _, by rw [HV.out]; exact TM_z _ _, by rw [HV.out]; exact ⟨Ah, ch, rfl, CH.out, (Kd.F_mono (Kd.F_step F_h (fun q hq _ => HS q (by have := Hok.out q hq; have := HG.out; omega) (by have := Hok.out q hq; have := HG.out; omega) (by have := Hok.out q hq; have := HG.out; omega))) (fun q hq => Or.inl hq))⟩, HB⟩)
  · skip
    obtain ⟨er, r, hR⟩ : ∃ er r, bodyR b = (er, r) := ⟨_, _, rfl⟩
    have hbody : Aside0 (∀ W : World, (∀ q, ok q → q < W.heap.size) → Kd.F k58 W ok Ab b.f3.length b.f3 → Calls Try.prog 42 #[.agg #[.int .i64 b.f0, .int .i64 b.f1, .string b.f2, .slice Ab b.f3.length cb]] W (fun e w' => ∃ A' c', e = .returned (.tuple #[.agg #[.int .i64 r.f0, .int .i64 r.f1, .string r.f2, .slice A' r.f3.length c'], .int .i64 er]) ∧ r.f3.length ≤ c' ∧ Kd.F k58 w' (fun k => ok k ∨ W.heap.size ≤ k) A' r.f3.length r.f3 ∧ Below W.heap.size W w')) := ⟨fun W h1 h2 => by
      have := Body_calls b SB.out Ab cb W ok h1 h2 CB.out
      unfold BodyP at this
      rw [hR] at this
      exact this⟩
    rw [hR] at hE
    dsimp only at hE
    obtain rfl : er = 0 := hE
    replace HV := Aside0.mk (show clauseR x = ⟨h, r, 0, z58⟩ by rw [HV.out]; unfold clauseHBR; rw [if_neg hp.1, if_neg hp.2, hR]; rfl)
    have q1 : (h.f0 == 1) = false := by simpa using hp.1
    have q2 : (h.f0 == 2) = false := by simpa using hp.2
    clear hp hR
    rcases HI.out with hi0 | ⟨hi0, hi1⟩ | ⟨hi0, hi1, hi2⟩
    all_goals (
      go_wp2_with (first
        | (go_at_call 42
           refine (hbody.out _ (fun q hq => Nat.lt_of_lt_of_le (Hok.out q hq) HB0.out.size) FB.out).mono ?_
           rintro e w5 ⟨Ar, cr, rfl, hcr, hFr, hbl⟩
           have CR_ := Aside0.mk hcr
           have HS4 := Aside0.mk (show w2.heap.size ≤ (((w2.alloc (.cells #[.int .i64 x.f0, .int .i64 x.f1, .string x.f2, .slice A x.f3.length c] 58)).alloc (.cells #[.int .i64 3, .int .i64 0, .string ⟨#[116, 114, 117, 101]⟩, .slice none 0 0] 58))).heap.size from SZ4.out)
           have HS5 := Aside0.mk (show w2.heap.size + 2 ≤ w5.heap.size from Nat.le_trans SZ42.out hbl.size)
           replace HB0 := Aside0.mk (show Below w.heap.size w (w5.alloc (.cells #[.int .i64 r.f0, .int .i64 r.f1, .string r.f2, .slice Ar r.f3.length cr] 58)) from below_alloc (below_step HB0.out hbl) _)
           replace HK2 := Aside0.mk (show (w5.alloc (.cells #[.int .i64 r.f0, .int .i64 r.f1, .string r.f2, .slice Ar r.f3.length cr] 58)).heap[_]? = _ from blk_alloc (blk_below HK2.out hbl) _)
           replace HK3 := Aside0.mk (show (w5.alloc (.cells #[.int .i64 r.f0, .int .i64 r.f1, .string r.f2, .slice Ar r.f3.length cr] 58)).heap[_]? = _ from blk_alloc (blk_below HK3.out hbl) _)
           replace HK5 := Aside0.mk (show (w5.alloc (.cells #[.int .i64 r.f0, .int .i64 r.f1, .string r.f2, .slice Ar r.f3.length cr] 58)).heap[_]? = _ from blk_alloc (blk_below HK5.out hbl) _)
           replace KP := Aside0.mk (show (w5.alloc (.cells #[.int .i64 r.f0, .int .i64 r.f1, .string r.f2, .slice Ar r.f3.length cr] 58)).heap[_]? = _ from blk_alloc (blk_below KP.out hbl) _)
           replace KB := Aside0.mk (show (w5.alloc (.cells #[.int .i64 r.f0, .int .i64 r.f1, .string r.f2, .slice Ar r.f3.length cr] 58)).heap[_]? = _ from blk_alloc (blk_below KB.out hbl) _)
           have KX := Aside0.mk (show (w5.alloc (.cells #[.int .i64 r.f0, .int .i64 r.f1, .string r.f2, .slice Ar r.f3.length cr] 58)).heap[w5.heap.size]? = some (.cells #[.int .i64 r.f0, .int .i64 r.f1, .string r.f2, .slice Ar r.f3.length cr] 58 (0, 0)) from heap_alloc_new _ _)
           replace FH := Aside0.mk (show Kd.F k58 (w5.alloc (.cells #[.int .i64 r.f0, .int .i64 r.f1, .string r.f2, .slice Ar r.f3.length cr] 58)) ok Ah h.f3.length h.f3 from Kd.F_alloc (Kd.F_below FH.out hbl) _)
           replace FB := Aside0.mk (show Kd.F k58 (w5.alloc (.cells #[.int .i64 r.f0, .int .i64 r.f1, .string r.f2, .slice Ar r.f3.length cr] 58)) ok Ab b.f3.length b.f3 from Kd.F_alloc (Kd.F_below FB.out hbl) _)
           have FR := Aside0.mk (show Kd.F k58 (w5.alloc (.cells #[.int .i64 r.f0, .int .i64 r.f1, .string r.f2, .slice Ar r.f3.length cr] 58)) (fun k => ok k ∨ (((w2.alloc (.cells #[.int .i64 x.f0, .int .i64 x.f1, .string x.f2, .slice A x.f3.length c] 58)).alloc (.cells #[.int .i64 3, .int .i64 0, .string ⟨#[116, 114, 117, 101]⟩, .slice none 0 0] 58))).heap.size ≤ k) Ar r.f3.length r.f3 from Kd.F_alloc hFr _)
           have HSY := Aside0.mk (show w.heap.size + 4 ≤ (w5.alloc (.cells #[.int .i64 r.f0, .int .i64 r.f1, .string r.f2, .slice Ar r.f3.length cr] 58)).heap.size by have := HS2.out; have := HS5.out; have h9 : (w5.alloc (.cells #[.int .i64 r.f0, .int .i64 r.f1, .string r.f2, .slice Ar r.f3.length cr] 58)).heap.size = w5.heap.size + 1 := al_sz _ _; omega)
           clear hFr hbl hcr))
      have B_H := HK2.out
      have B_R := HK3.out
      have B_W := HK5.out
      have HB := HB0.out
      have B_P := KP.out
      have F_h := FH.out
      have B_X := KX.out
      have F_r := FR.out
      have HSZ : w.heap.size ≤ ((w5.alloc (.cells #[.int .i64 r.f0, .int .i64 r.f1, .string r.f2, .slice Ar r.f3.length cr] 58))).heap.size := HB.size
      generalize (w5.alloc (.cells #[.int .i64 r.f0, .int .i64 r.f1, .string r.f2, .slice Ar r.f3.length cr] 58)) = y0 at *
      refine start_ (n := 8) (S := fun w' => w'.cell? ⟨w2.heap.size, 0, none⟩ = some (.int .i64 h.f0) ∧ w'.cell? ⟨w2.heap.size, 1, none⟩ = some (.int .i64 h.f1) ∧ w'.cell? ⟨w2.heap.size, 2, none⟩ = some (.string h.f2) ∧ w'.cell? ⟨w2.heap.size, 3, none⟩ = some (.slice Ah h.f3.length ch) ∧ w'.cell? ⟨w5.heap.size, 0, none⟩ = some (.int .i64 r.f0) ∧ w'.cell? ⟨w5.heap.size, 1, none⟩ = some (.int .i64 r.f1) ∧ w'.cell? ⟨w5.heap.size, 2, none⟩ = some (.string r.f2) ∧ w'.cell? ⟨w5.heap.size, 3, none⟩ = some (.slice Ar r.f3.length cr) ∧ w'.cell? ⟨g5, 0, none⟩ = some (.int .i64 0) ∧ w'.cell? ⟨g5, 1, none⟩ = some (.int .i64 0) ∧ w'.cell? ⟨g5, 2, none⟩ = some (.string ⟨#[]⟩) ∧ w'.cell? ⟨g5, 3, none⟩ = some (.slice none 0 0)) (ds := []) #[false, false, false, false, false, false, false, false] (by kernel_rfl) rfl rfl ⟨(blk_cell (blk_drew B_P) 0).trans rfl, (blk_cell (blk_drew B_P) 1).trans rfl, (blk_cell (blk_drew B_P) 2).trans rfl, (blk_cell (blk_drew B_P) 3).trans rfl, (blk_cell (blk_drew B_X) 0).trans rfl, (blk_cell (blk_drew B_X) 1).trans rfl, (blk_cell (blk_drew B_X) 2).trans rfl, (blk_cell (blk_drew B_X) 3).trans rfl, (blk_cell (blk_drew B_W) 0).trans rfl, (blk_cell (blk_drew B_W) 1).trans rfl, (blk_cell (blk_drew B_W) 2).trans rfl, (blk_cell (blk_drew B_W) 3).trans rfl⟩ (fun hHeld => ?_)
      replace B_H := blk_drew B_H
      replace B_R := blk_drew B_R
      replace B_W := blk_drew B_W
      replace B_P := blk_drew B_P
      replace B_X := blk_drew B_X
      replace HB := HB.drew
      replace F_h := Kd.F_drew F_h
      replace F_r := Kd.F_drew F_r
      have HSV0 : w.heap.size + 4 ≤ y0.drew.heap.size := by have := HSY.out; simpa using this
      generalize y0.drew = v0 at *
      have HS : ∀ q, q ≠ g2 → q ≠ g3 → q ≠ g5 → v0.heap[q]? = v0.heap[q]? := fun _ _ _ _ => rfl
      refine take_ (i := 0) (N := some 62) (v := ?_) (a' := ?_) #[true, false, false, false, false, false, false, false] rfl rfl (by kernel_rfl) (fun _ _ _ h => h) (Or.inl ⟨by rfl, ?_⟩) hHeld ?_ ?_
      rotate_left
      · rintro w' ⟨s0, s1, s2, s3, s4, s5, s6, s7, s8, s9, s10, s11⟩
        go_simp
        with_reducible rfl
      rotate_left
      · simp only [Act.put, List.setIfInBounds_toArray, List.set_cons_zero, List.set_cons_succ, i64_w, i32_w]
        rfl
      refine take_ (i := 2) (N := some 64) (v := ?_) (a' := ?_) #[true, false, true, false, false, false, false, false] rfl rfl (by kernel_rfl) (fun _ _ _ h => h) (Or.inl ⟨by rfl, ?_⟩) hHeld ?_ ?_
      rotate_left
      · rintro w' ⟨s0, s1, s2, s3, s4, s5, s6, s7, s8, s9, s10, s11⟩
        go_simp
        with_reducible rfl
      rotate_left
      · simp only [Act.put, List.setIfInBounds_toArray, List.set_cons_zero, List.set_cons_succ, i64_w, i32_w]
        rfl
      refine take_ (i := 3) (N := some 65) (v := ?_) (a' := ?_) #[true, false, true, true, false, false, false, false] rfl rfl (by kernel_rfl) (fun _ _ _ h => h) (Or.inl ⟨by rfl, ?_⟩) hHeld ?_ ?_
      rotate_left
      · rintro w' ⟨s0, s1, s2, s3, s4, s5, s6, s7, s8, s9, s10, s11⟩
        go_simp
        with_reducible rfl
      rotate_left
      · simp only [Act.put, List.setIfInBounds_toArray, List.set_cons_zero, List.set_cons_succ, i64_w, i32_w]
        rfl
      refine one_ (i := 1) (N := some 63) #[true, true, true, true, false, false, false, false] rfl rfl (by kernel_rfl) (by decide) (fun K hK => ?_)
      refine goes_ Try.func75 (by kernel_rfl) rfl #[.agg #[.int .i64 h.f0, .int .i64 h.f1, .string h.f2, .slice Ah h.f3.length ch]] (by rfl) rfl rfl (by (try simp only [List.map_toArray, List.map_cons, List.map_nil]); first | done | rfl) ?_
      refine (own_calls 400000 (by decide) h SH.out Ah ch _ (Kd.F_now F_h) CH.out).mono ?_
      rintro e vc ⟨Ao, co, rfl, hco, hFo, hbo⟩
      refine ⟨_, rfl, ?_⟩
      replace B_H := blk_below B_H hbo
      replace B_R := blk_below B_R hbo
      replace B_W := blk_below B_W hbo
      replace B_P := blk_below B_P hbo
      replace B_X := blk_below B_X hbo
      replace HB := below_step HB hbo
      replace F_h := Kd.F_below F_h hbo
      replace F_r := Kd.F_below F_r hbo
      have hszo := hbo.size
      have HSV : w.heap.size + 4 ≤ v0.heap.size := HSV0
      clear HS
      have HS : ∀ q, q ≠ g2 → q ≠ g3 → q ≠ g5 → vc.heap[q]? = vc.heap[q]? := fun _ _ _ _ => rfl
      refine hK.out _ _ ⟨(blk_cell B_P 0).trans rfl, (blk_cell B_P 1).trans rfl, (blk_cell B_P 2).trans rfl, (blk_cell B_P 3).trans rfl, (blk_cell B_X 0).trans rfl, (blk_cell B_X 1).trans rfl, (blk_cell B_X 2).trans rfl, (blk_cell B_X 3).trans rfl, (blk_cell B_W 0).trans rfl, (blk_cell B_W 1).trans rfl, (blk_cell B_W 2).trans rfl, (blk_cell B_W 3).trans rfl⟩ (fun hHeld => ?_)
      clear hK K
      refine norm_ (a' := ?_) ?_ ?_
      rotate_left
      · show Act.put _ (some 63) _ = _
        simp only [Act.put, List.setIfInBounds_toArray, List.set_cons_zero, List.set_cons_succ, i64_w, i32_w]
        rfl
      refine one_ (i := 4) (N := none) #[true, true, true, true, true, false, false, false] rfl rfl (by kernel_rfl) (by decide) (fun K hK => ?_)
      have hst_ : (Instr.storeAt 58 (.pointer (some ⟨g2, 0, none⟩)) (.agg #[.int .i64 h.f0, .int .i64 h.f1, .string h.f2, .slice Ao h.f3.length co])).run Try.prog vc = .ok () ((((vc.setCell ⟨g2, 0, none⟩ (.int .i64 h.f0)).setCell ⟨g2, 1, none⟩ (.int .i64 h.f1)).setCell ⟨g2, 2, none⟩ (.string h.f2)).setCell ⟨g2, 3, none⟩ (.slice Ao h.f3.length co)) := store4 B_H
      refine skip_ (by rfl) rfl (w1 := ((((vc.setCell ⟨g2, 0, none⟩ (.int .i64 h.f0)).setCell ⟨g2, 1, none⟩ (.int .i64 h.f1)).setCell ⟨g2, 2, none⟩ (.string h.f2)).setCell ⟨g2, 3, none⟩ (.slice Ao h.f3.length co))) (ins_st hst_) ?_
      clear hst_
      obtain ⟨s1_, s2_, s3_⟩ := set4 (.int .i64 h.f0) (.int .i64 h.f1) (.string h.f2) (.slice Ao h.f3.length co) B_H
      replace HB := s3_ _ _ HB (by have := HG.out; have := HS2.out; have := HS5.out; omega)
      replace B_R := (s2_ _ (by have := HG.out; have := HS2.out; have := HS5.out; omega)).trans B_R
      replace B_W := (s2_ _ (by have := HG.out; have := HS2.out; have := HS5.out; omega)).trans B_W
      replace B_P := (s2_ _ (by have := HG.out; have := HS2.out; have := HS5.out; omega)).trans B_P
      replace B_X := (s2_ _ (by have := HG.out; have := HS2.out; have := HS5.out; omega)).trans B_X
      replace B_H := s1_
      replace HS : ∀ q, q ≠ g2 → q ≠ g3 → q ≠ g5 → _ = vc.heap[q]? := fun q h2_ h3_ h5_ => (s2_ q (by assumption)).trans (HS q h2_ h3_ h5_)
      clear s1_ s2_ s3_
      generalize ((((vc.setCell ⟨g2, 0, none⟩ (.int .i64 h.f0)).setCell ⟨g2, 1, none⟩ (.int .i64 h.f1)).setCell ⟨g2, 2, none⟩ (.string h.f2)).setCell ⟨g2, 3, none⟩ (.slice Ao h.f3.length co)) = v1 at *
      refine hK.out _ _ ⟨(blk_cell B_P 0).trans rfl, (blk_cell B_P 1).trans rfl, (blk_cell B_P 2).trans rfl, (blk_cell B_P 3).trans rfl, (blk_cell B_X 0).trans rfl, (blk_cell B_X 1).trans rfl, (blk_cell B_X 2).trans rfl, (blk_cell B_X 3).trans rfl, (blk_cell B_W 0).trans rfl, (blk_cell B_W 1).trans rfl, (blk_cell B_W 2).trans rfl, (blk_cell B_W 3).trans rfl⟩ (fun hHeld => ?_)
      clear hK K
      refine one_ (i := 5) (N := none) #[true, true, true, true, true, true, false, false] rfl rfl (by kernel_rfl) (by decide) (fun K hK => ?_)
      have hst_ : (Instr.storeAt 58 (.pointer (some ⟨g3, 0, none⟩)) (.agg #[.int .i64 r.f0, .int .i64 r.f1, .string r.f2, .slice Ar r.f3.length cr])).run Try.prog v1 = .ok () ((((v1.setCell ⟨g3, 0, none⟩ (.int .i64 r.f0)).setCell ⟨g3, 1, none⟩ (.int .i64 r.f1)).setCell ⟨g3, 2, none⟩ (.string r.f2)).setCell ⟨g3, 3, none⟩ (.slice Ar r.f3.length cr)) := store4 B_R
      refine skip_ (by rfl) rfl (w1 := ((((v1.setCell ⟨g3, 0, none⟩ (.int .i64 r.f0)).setCell ⟨g3, 1, none⟩ (.int .i64 r.f1)).setCell ⟨g3, 2, none⟩ (.string r.f2)).setCell ⟨g3, 3, none⟩ (.slice Ar r.f3.length cr))) (ins_st hst_) ?_
      clear hst_
      obtain ⟨s1_, s2_, s3_⟩ := set4 (.int .i64 r.f0) (.int .i64 r.f1) (.string r.f2) (.slice Ar r.f3.length cr) B_R
      replace HB := s3_ _ _ HB (by have := HG.out; have := HS2.out; have := HS5.out; omega)
      replace B_H := (s2_ _ (by have := HG.out; have := HS2.out; have := HS5.out; omega)).trans B_H
      replace B_W := (s2_ _ (by have := HG.out; have := HS2.out; have := HS5.out; omega)).trans B_W
      replace B_P := (s2_ _ (by have := HG.out; have := HS2.out; have := HS5.out; omega)).trans B_P
      replace B_X := (s2_ _ (by have := HG.out; have := HS2.out; have := HS5.out; omega)).trans B_X
      replace B_R := s1_
      replace HS : ∀ q, q ≠ g2 → q ≠ g3 → q ≠ g5 → _ = vc.heap[q]? := fun q h2_ h3_ h5_ => (s2_ q (by assumption)).trans (HS q h2_ h3_ h5_)
      clear s1_ s2_ s3_
      generalize ((((v1.setCell ⟨g3, 0, none⟩ (.int .i64 r.f0)).setCell ⟨g3, 1, none⟩ (.int .i64 r.f1)).setCell ⟨g3, 2, none⟩ (.string r.f2)).setCell ⟨g3, 3, none⟩ (.slice Ar r.f3.length cr)) = v2 at *
      refine hK.out _ _ ⟨(blk_cell B_P 0).trans rfl, (blk_cell B_P 1).trans rfl, (blk_cell B_P 2).trans rfl, (blk_cell B_P 3).trans rfl, (blk_cell B_X 0).trans rfl, (blk_cell B_X 1).trans rfl, (blk_cell B_X 2).trans rfl, (blk_cell B_X 3).trans rfl, (blk_cell B_W 0).trans rfl, (blk_cell B_W 1).trans rfl, (blk_cell B_W 2).trans rfl, (blk_cell B_W 3).trans rfl⟩ (fun hHeld => ?_)
      clear hK K
      refine pure_ (i := 6) (N := some 4) (v := ?_) (a' := ?_) #[true, true, true, true, true, true, true, false] rfl rfl (by kernel_rfl) (fun _ _ _ h => h) (Or.inl ⟨by rfl, ?_⟩) ?_ ?_
      rotate_left
      · intro w'
        go_simp
        with_reducible rfl
      rotate_left
      · simp only [Act.put, List.setIfInBounds_toArray, List.set_cons_zero, List.set_cons_succ, i64_w, i32_w]
        rfl
      refine one_ (i := 7) (N := none) #[true, true, true, true, true, true, true, true] rfl rfl (by kernel_rfl) (by decide) (fun K hK => ?_)
      have hst_ : (Instr.storeAt 58 (.pointer (some ⟨g5, 0, none⟩)) (.agg #[.int .i64 0, .int .i64 0, .string ⟨#[]⟩, .slice none 0 0])).run Try.prog v2 = .ok () ((((v2.setCell ⟨g5, 0, none⟩ (.int .i64 0)).setCell ⟨g5, 1, none⟩ (.int .i64 0)).setCell ⟨g5, 2, none⟩ (.string ⟨#[]⟩)).setCell ⟨g5, 3, none⟩ (.slice none 0 0)) := store4 B_W
      refine skip_ (by rfl) rfl (w1 := ((((v2.setCell ⟨g5, 0, none⟩ (.int .i64 0)).setCell ⟨g5, 1, none⟩ (.int .i64 0)).setCell ⟨g5, 2, none⟩ (.string ⟨#[]⟩)).setCell ⟨g5, 3, none⟩ (.slice none 0 0))) (ins_st hst_) ?_
      clear hst_
      obtain ⟨s1_, s2_, s3_⟩ := set4 (.int .i64 0) (.int .i64 0) (.string ⟨#[]⟩) (.slice none 0 0) B_W
      replace HB := s3_ _ _ HB (by have := HG.out; have := HS2.out; have := HS5.out; omega)
      replace B_H := (s2_ _ (by have := HG.out; have := HS2.out; have := HS5.out; omega)).trans B_H
      replace B_R := (s2_ _ (by have := HG.out; have := HS2.out; have := HS5.out; omega)).trans B_R
      replace B_P := (s2_ _ (by have := HG.out; have := HS2.out; have := HS5.out; omega)).trans B_P
      replace B_X := (s2_ _ (by have := HG.out; have := HS2.out; have := HS5.out; omega)).trans B_X
      replace B_W := s1_
      replace HS : ∀ q, q ≠ g2 → q ≠ g3 → q ≠ g5 → _ = vc.heap[q]? := fun q h2_ h3_ h5_ => (s2_ q (by assumption)).trans (HS q h2_ h3_ h5_)
      clear s1_ s2_ s3_
      generalize ((((v2.setCell ⟨g5, 0, none⟩ (.int .i64 0)).setCell ⟨g5, 1, none⟩ (.int .i64 0)).setCell ⟨g5, 2, none⟩ (.string ⟨#[]⟩)).setCell ⟨g5, 3, none⟩ (.slice none 0 0)) = v3 at *
      refine hK.out _ _ ⟨(blk_cell B_P 0).trans rfl, (blk_cell B_P 1).trans rfl, (blk_cell B_P 2).trans rfl, (blk_cell B_P 3).trans rfl, (blk_cell B_X 0).trans rfl, (blk_cell B_X 1).trans rfl, (blk_cell B_X 2).trans rfl, (blk_cell B_X 3).trans rfl, (blk_cell B_W 0).trans rfl, (blk_cell B_W 1).trans rfl, (blk_cell B_W 2).trans rfl, (blk_cell B_W 3).trans rfl⟩ (fun hHeld => ?_)
      clear hK K
      refine done_ (by kernel_rfl) ?_
      go_wp2_with fail
      refine bodyPost_ret (res32 (by rfl) (by rfl) (by rfl) (by rfl) B_H B_R B_W) rfl ?_
      exact ⟨_, _, _, by rw [HV.out], by rw [HV.out]; exact ⟨Ao, co, rfl, hco, (Kd.F_mono (Kd.F_step hFo (fun q hq _ => HS q (by have := HG.out; have hq2 : v0.heap.size ≤ q := hq; have := HSV; omega) (by have := HG.out; have hq2 : v0.heap.size ≤ q := hq; have := HSV; omega) (by have := HG.out; have hq2 : v0.heap.size ≤ q := hq; have := HSV; omega))) (fun q hq => Or.inr (by have hq2 : v0.heap.size ≤ q := hq; have := HSV; omega)))⟩, by rw [HV.out]; exact ⟨Ar, cr, rfl, CR_.out, (Kd.F_mono (Kd.F_step F_r (fun q hq _ => HS q (by have := HG.out; have := HS2.out; have := HS4.out; have := (show q < w.heap.size ∨ _ ≤ q from hq.imp (fun h => Hok.out q h) id); omega) (by have := HG.out; have := HS2.out; have := HS4.out; have := (show q < w.heap.size ∨ _ ≤ q from hq.imp (fun h => Hok.out q h) id); omega) (by have := HG.out; have := HS2.out; have := HS4.out; have := (show q < w.heap.size ∨ _ ≤ q from hq.imp (fun h => Hok.out q h) id); omega))) (fun q hq => hq.imp id (fun h => by have := HS2.out; have := HS4.out; omega)))⟩, by rw [HV.out]; exact TM_z _ _, HB⟩)
  · skip
    obtain ⟨er, r, hR⟩ : ∃ er r, bodyR b = (er, r) := ⟨_, _, rfl⟩
    have hbody : Aside0 (∀ W : World, (∀ q, ok q → q < W.heap.size) → Kd.F k58 W ok Ab b.f3.length b.f3 → Calls Try.prog 42 #[.agg #[.int .i64 b.f0, .int .i64 b.f1, .string b.f2, .slice Ab b.f3.length cb]] W (fun e w' => ∃ A' c', e = .returned (.tuple #[.agg #[.int .i64 r.f0, .int .i64 r.f1, .string r.f2, .slice A' r.f3.length c'], .int .i64 er]) ∧ r.f3.length ≤ c' ∧ Kd.F k58 w' (fun k => ok k ∨ W.heap.size ≤ k) A' r.f3.length r.f3 ∧ Below W.heap.size W w')) := ⟨fun W h1 h2 => by
      have := Body_calls b SB.out Ab cb W ok h1 h2 CB.out
      unfold BodyP at this
      rw [hR] at this
      exact this⟩
    rw [hR] at hE
    dsimp only at hE
    obtain rfl : er = 13 := hE
    replace HV := Aside0.mk (show clauseR x = ⟨z58, z58, 13, b⟩ by rw [HV.out]; unfold clauseHBR; rw [if_neg hp.1, if_neg hp.2, hR]; rfl)
    have q1 : (h.f0 == 1) = false := by simpa using hp.1
    have q2 : (h.f0 == 2) = false := by simpa using hp.2
    clear hp hR
    rcases HI.out with hi0 | ⟨hi0, hi1⟩ | ⟨hi0, hi1, hi2⟩
    all_goals (
      go_wp2_with (first
        | (go_at_call 42
           refine (hbody.out _ (fun q hq => Nat.lt_of_lt_of_le (Hok.out q hq) HB0.out.size) FB.out).mono ?_
           rintro e w5 ⟨Ar, cr, rfl, hcr, hFr, hbl⟩
           have CR_ := Aside0.mk hcr
           have HS4 := Aside0.mk (show w2.heap.size ≤ (((w2.alloc (.cells #[.int .i64 x.f0, .int .i64 x.f1, .string x.f2, .slice A x.f3.length c] 58)).alloc (.cells #[.int .i64 3, .int .i64 0, .string ⟨#[116, 114, 117, 101]⟩, .slice none 0 0] 58))).heap.size from SZ4.out)
           have HS5 := Aside0.mk (show w2.heap.size + 2 ≤ w5.heap.size from Nat.le_trans SZ42.out hbl.size)
           replace HB0 := Aside0.mk (show Below w.heap.size w (w5.alloc (.cells #[.int .i64 r.f0, .int .i64 r.f1, .string r.f2, .slice Ar r.f3.length cr] 58)) from below_alloc (below_step HB0.out hbl) _)
           replace HK2 := Aside0.mk (show (w5.alloc (.cells #[.int .i64 r.f0, .int .i64 r.f1, .string r.f2, .slice Ar r.f3.length cr] 58)).heap[_]? = _ from blk_alloc (blk_below HK2.out hbl) _)
           replace HK3 := Aside0.mk (show (w5.alloc (.cells #[.int .i64 r.f0, .int .i64 r.f1, .string r.f2, .slice Ar r.f3.length cr] 58)).heap[_]? = _ from blk_alloc (blk_below HK3.out hbl) _)
           replace HK5 := Aside0.mk (show (w5.alloc (.cells #[.int .i64 r.f0, .int .i64 r.f1, .string r.f2, .slice Ar r.f3.length cr] 58)).heap[_]? = _ from blk_alloc (blk_below HK5.out hbl) _)
           replace KP := Aside0.mk (show (w5.alloc (.cells #[.int .i64 r.f0, .int .i64 r.f1, .string r.f2, .slice Ar r.f3.length cr] 58)).heap[_]? = _ from blk_alloc (blk_below KP.out hbl) _)
           replace KB := Aside0.mk (show (w5.alloc (.cells #[.int .i64 r.f0, .int .i64 r.f1, .string r.f2, .slice Ar r.f3.length cr] 58)).heap[_]? = _ from blk_alloc (blk_below KB.out hbl) _)
           have KX := Aside0.mk (show (w5.alloc (.cells #[.int .i64 r.f0, .int .i64 r.f1, .string r.f2, .slice Ar r.f3.length cr] 58)).heap[w5.heap.size]? = some (.cells #[.int .i64 r.f0, .int .i64 r.f1, .string r.f2, .slice Ar r.f3.length cr] 58 (0, 0)) from heap_alloc_new _ _)
           replace FH := Aside0.mk (show Kd.F k58 (w5.alloc (.cells #[.int .i64 r.f0, .int .i64 r.f1, .string r.f2, .slice Ar r.f3.length cr] 58)) ok Ah h.f3.length h.f3 from Kd.F_alloc (Kd.F_below FH.out hbl) _)
           replace FB := Aside0.mk (show Kd.F k58 (w5.alloc (.cells #[.int .i64 r.f0, .int .i64 r.f1, .string r.f2, .slice Ar r.f3.length cr] 58)) ok Ab b.f3.length b.f3 from Kd.F_alloc (Kd.F_below FB.out hbl) _)
           have FR := Aside0.mk (show Kd.F k58 (w5.alloc (.cells #[.int .i64 r.f0, .int .i64 r.f1, .string r.f2, .slice Ar r.f3.length cr] 58)) (fun k => ok k ∨ (((w2.alloc (.cells #[.int .i64 x.f0, .int .i64 x.f1, .string x.f2, .slice A x.f3.length c] 58)).alloc (.cells #[.int .i64 3, .int .i64 0, .string ⟨#[116, 114, 117, 101]⟩, .slice none 0 0] 58))).heap.size ≤ k) Ar r.f3.length r.f3 from Kd.F_alloc hFr _)
           have HSY := Aside0.mk (show w.heap.size + 4 ≤ (w5.alloc (.cells #[.int .i64 r.f0, .int .i64 r.f1, .string r.f2, .slice Ar r.f3.length cr] 58)).heap.size by have := HS2.out; have := HS5.out; have h9 : (w5.alloc (.cells #[.int .i64 r.f0, .int .i64 r.f1, .string r.f2, .slice Ar r.f3.length cr] 58)).heap.size = w5.heap.size + 1 := al_sz _ _; omega)
           clear hFr hbl hcr))
      have B_H := HK2.out
      have B_R := HK3.out
      have B_W := HK5.out
      have HB := HB0.out
      have B_B := KB.out
      have F_b := FB.out
      have HSZ : w.heap.size ≤ ((w5.alloc (.cells #[.int .i64 r.f0, .int .i64 r.f1, .string r.f2, .slice Ar r.f3.length cr] 58))).heap.size := HB.size
      generalize (w5.alloc (.cells #[.int .i64 r.f0, .int .i64 r.f1, .string r.f2, .slice Ar r.f3.length cr] 58)) = y0 at *
      refine start_ (n := 9) (S := fun w' => w'.cell? ⟨g2, 0, none⟩ = some (.int .i64 0) ∧ w'.cell? ⟨g2, 1, none⟩ = some (.int .i64 0) ∧ w'.cell? ⟨g2, 2, none⟩ = some (.string ⟨#[]⟩) ∧ w'.cell? ⟨g2, 3, none⟩ = some (.slice none 0 0) ∧ w'.cell? ⟨g3, 0, none⟩ = some (.int .i64 0) ∧ w'.cell? ⟨g3, 1, none⟩ = some (.int .i64 0) ∧ w'.cell? ⟨g3, 2, none⟩ = some (.string ⟨#[]⟩) ∧ w'.cell? ⟨g3, 3, none⟩ = some (.slice none 0 0) ∧ w'.cell? ⟨w2.heap.size + 1, 0, none⟩ = some (.int .i64 b.f0) ∧ w'.cell? ⟨w2.heap.size + 1, 1, none⟩ = some (.int .i64 b.f1) ∧ w'.cell? ⟨w2.heap.size + 1, 2, none⟩ = some (.string b.f2) ∧ w'.cell? ⟨w2.heap.size + 1, 3, none⟩ = some (.slice Ab b.f3.length cb)) (ds := []) #[false, false, false, false, false, false, false, false, false] (by kernel_rfl) rfl rfl ⟨(blk_cell (blk_drew B_H) 0).trans rfl, (blk_cell (blk_drew B_H) 1).trans rfl, (blk_cell (blk_drew B_H) 2).trans rfl, (blk_cell (blk_drew B_H) 3).trans rfl, (blk_cell (blk_drew B_R) 0).trans rfl, (blk_cell (blk_drew B_R) 1).trans rfl, (blk_cell (blk_drew B_R) 2).trans rfl, (blk_cell (blk_drew B_R) 3).trans rfl, (blk_cell (blk_drew B_B) 0).trans rfl, (blk_cell (blk_drew B_B) 1).trans rfl, (blk_cell (blk_drew B_B) 2).trans rfl, (blk_cell (blk_drew B_B) 3).trans rfl⟩ (fun hHeld => ?_)
      replace B_H := blk_drew B_H
      replace B_R := blk_drew B_R
      replace B_W := blk_drew B_W
      replace B_B := blk_drew B_B
      replace HB := HB.drew
      replace F_b := Kd.F_drew F_b
      have HSV0 : w.heap.size + 4 ≤ y0.drew.heap.size := by have := HSY.out; simpa using this
      generalize y0.drew = v0 at *
      have HS : ∀ q, q ≠ g2 → q ≠ g3 → q ≠ g5 → v0.heap[q]? = v0.heap[q]? := fun _ _ _ _ => rfl
      refine take_ (i := 0) (N := some 68) (v := ?_) (a' := ?_) #[true, false, false, false, false, false, false, false, false] rfl rfl (by kernel_rfl) (fun _ _ _ h => h) (Or.inl ⟨by rfl, ?_⟩) hHeld ?_ ?_
      rotate_left
      · rintro w' ⟨s0, s1, s2, s3, s4, s5, s6, s7, s8, s9, s10, s11⟩
        go_simp
        with_reducible rfl
      rotate_left
      · simp only [Act.put, List.setIfInBounds_toArray, List.set_cons_zero, List.set_cons_succ, i64_w, i32_w]
        rfl
      refine take_ (i := 1) (N := some 69) (v := ?_) (a' := ?_) #[true, true, false, false, false, false, false, false, false] rfl rfl (by kernel_rfl) (fun _ _ _ h => h) (Or.inl ⟨by rfl, ?_⟩) hHeld ?_ ?_
      rotate_left
      · rintro w' ⟨s0, s1, s2, s3, s4, s5, s6, s7, s8, s9, s10, s11⟩
        go_simp
        with_reducible rfl
      rotate_left
      · simp only [Act.put, List.setIfInBounds_toArray, List.set_cons_zero, List.set_cons_succ, i64_w, i32_w]
        rfl
      refine pure_ (i := 2) (N := some 70) (v := ?_) (a' := ?_) #[true, true, true, false, false, false, false, false, false] rfl rfl (by kernel_rfl) (fun _ _ _ h => h) (Or.inl ⟨by rfl, ?_⟩) ?_ ?_
      rotate_left
      · intro w'
        go_simp
        with_reducible rfl
      rotate_left
      · simp only [Act.put, List.setIfInBounds_toArray, List.set_cons_zero, List.set_cons_succ, i64_w, i32_w]
        rfl
      refine take_ (i := 3) (N := some 71) (v := ?_) (a' := ?_) #[true, true, true, true, false, false, false, false, false] rfl rfl (by kernel_rfl) (fun _ _ _ h => h) (Or.inl ⟨by rfl, ?_⟩) hHeld ?_ ?_
      rotate_left
      · rintro w' ⟨s0, s1, s2, s3, s4, s5, s6, s7, s8, s9, s10, s11⟩
        go_simp
        with_reducible rfl
      rotate_left
      · simp only [Act.put, List.setIfInBounds_toArray, List.set_cons_zero, List.set_cons_succ, i64_w, i32_w]
        rfl
      refine one_ (i := 4) (N := some 72) #[true, true, true, true, true, false, false, false, false] rfl rfl (by kernel_rfl) (by decide) (fun K hK => ?_)
      refine goes_ Try.func75 (by kernel_rfl) rfl #[.agg #[.int .i64 b.f0, .int .i64 b.f1, .string b.f2, .slice Ab b.f3.length cb]] (by rfl) rfl rfl (by (try simp only [List.map_toArray, List.map_cons, List.map_nil]); first | done | rfl) ?_
      refine (own_calls 400000 (by decide) b SB.out Ab cb _ (Kd.F_now F_b) CB.out).mono ?_
      rintro e vc ⟨Ao, co, rfl, hco, hFo, hbo⟩
      refine ⟨_, rfl, ?_⟩
      replace B_H := blk_below B_H hbo
      replace B_R := blk_below B_R hbo
      replace B_W := blk_below B_W hbo
      replace B_B := blk_below B_B hbo
      replace HB := below_step HB hbo
      replace F_b := Kd.F_below F_b hbo
      have hszo := hbo.size
      have HSV : w.heap.size + 4 ≤ v0.heap.size := HSV0
      clear HS
      have HS : ∀ q, q ≠ g2 → q ≠ g3 → q ≠ g5 → vc.heap[q]? = vc.heap[q]? := fun _ _ _ _ => rfl
      refine hK.out _ _ ⟨(blk_cell B_H 0).trans rfl, (blk_cell B_H 1).trans rfl, (blk_cell B_H 2).trans rfl, (blk_cell B_H 3).trans rfl, (blk_cell B_R 0).trans rfl, (blk_cell B_R 1).trans rfl, (blk_cell B_R 2).trans rfl, (blk_cell B_R 3).trans rfl, (blk_cell B_B 0).trans rfl, (blk_cell B_B 1).trans rfl, (blk_cell B_B 2).trans rfl, (blk_cell B_B 3).trans rfl⟩ (fun hHeld => ?_)
      clear hK K
      refine norm_ (a' := ?_) ?_ ?_
      rotate_left
      · show Act.put _ (some 72) _ = _
        simp only [Act.put, List.setIfInBounds_toArray, List.set_cons_zero, List.set_cons_succ, i64_w, i32_w]
        rfl
      refine one_ (i := 5) (N := none) #[true, true, true, true, true, true, false, false, false] rfl rfl (by kernel_rfl) (by decide) (fun K hK => ?_)
      have hst_ : (Instr.storeAt 58 (.pointer (some ⟨g2, 0, none⟩)) (.agg #[.int .i64 0, .int .i64 0, .string ⟨#[]⟩, .slice none 0 0])).run Try.prog vc = .ok () ((((vc.setCell ⟨g2, 0, none⟩ (.int .i64 0)).setCell ⟨g2, 1, none⟩ (.int .i64 0)).setCell ⟨g2, 2, none⟩ (.string ⟨#[]⟩)).setCell ⟨g2, 3, none⟩ (.slice none 0 0)) := store4 B_H
      refine skip_ (by rfl) rfl (w1 := ((((vc.setCell ⟨g2, 0, none⟩ (.int .i64 0)).setCell ⟨g2, 1, none⟩ (.int .i64 0)).setCell ⟨g2, 2, none⟩ (.string ⟨#[]⟩)).setCell ⟨g2, 3, none⟩ (.slice none 0 0))) (ins_st hst_) ?_
      clear hst_
      obtain ⟨s1_, s2_, s3_⟩ := set4 (.int .i64 0) (.int .i64 0) (.string ⟨#[]⟩) (.slice none 0 0) B_H
      replace HB := s3_ _ _ HB (by have := HG.out; have := HS2.out; have := HS5.out; omega)
      replace B_R := (s2_ _ (by have := HG.out; have := HS2.out; have := HS5.out; omega)).trans B_R
      replace B_W := (s2_ _ (by have := HG.out; have := HS2.out; have := HS5.out; omega)).trans B_W
      replace B_B := (s2_ _ (by have := HG.out; have := HS2.out; have := HS5.out; omega)).trans B_B
      replace B_H := s1_
      replace HS : ∀ q, q ≠ g2 → q ≠ g3 → q ≠ g5 → _ = vc.heap[q]? := fun q h2_ h3_ h5_ => (s2_ q (by assumption)).trans (HS q h2_ h3_ h5_)
      clear s1_ s2_ s3_
      generalize ((((vc.setCell ⟨g2, 0, none⟩ (.int .i64 0)).setCell ⟨g2, 1, none⟩ (.int .i64 0)).setCell ⟨g2, 2, none⟩ (.string ⟨#[]⟩)).setCell ⟨g2, 3, none⟩ (.slice none 0 0)) = v1 at *
      refine hK.out _ _ ⟨(blk_cell B_H 0).trans rfl, (blk_cell B_H 1).trans rfl, (blk_cell B_H 2).trans rfl, (blk_cell B_H 3).trans rfl, (blk_cell B_R 0).trans rfl, (blk_cell B_R 1).trans rfl, (blk_cell B_R 2).trans rfl, (blk_cell B_R 3).trans rfl, (blk_cell B_B 0).trans rfl, (blk_cell B_B 1).trans rfl, (blk_cell B_B 2).trans rfl, (blk_cell B_B 3).trans rfl⟩ (fun hHeld => ?_)
      clear hK K
      refine one_ (i := 6) (N := none) #[true, true, true, true, true, true, true, false, false] rfl rfl (by kernel_rfl) (by decide) (fun K hK => ?_)
      have hst_ : (Instr.storeAt 58 (.pointer (some ⟨g3, 0, none⟩)) (.agg #[.int .i64 0, .int .i64 0, .string ⟨#[]⟩, .slice none 0 0])).run Try.prog v1 = .ok () ((((v1.setCell ⟨g3, 0, none⟩ (.int .i64 0)).setCell ⟨g3, 1, none⟩ (.int .i64 0)).setCell ⟨g3, 2, none⟩ (.string ⟨#[]⟩)).setCell ⟨g3, 3, none⟩ (.slice none 0 0)) := store4 B_R
      refine skip_ (by rfl) rfl (w1 := ((((v1.setCell ⟨g3, 0, none⟩ (.int .i64 0)).setCell ⟨g3, 1, none⟩ (.int .i64 0)).setCell ⟨g3, 2, none⟩ (.string ⟨#[]⟩)).setCell ⟨g3, 3, none⟩ (.slice none 0 0))) (ins_st hst_) ?_
      clear hst_
      obtain ⟨s1_, s2_, s3_⟩ := set4 (.int .i64 0) (.int .i64 0) (.string ⟨#[]⟩) (.slice none 0 0) B_R
      replace HB := s3_ _ _ HB (by have := HG.out; have := HS2.out; have := HS5.out; omega)
      replace B_H := (s2_ _ (by have := HG.out; have := HS2.out; have := HS5.out; omega)).trans B_H
      replace B_W := (s2_ _ (by have := HG.out; have := HS2.out; have := HS5.out; omega)).trans B_W
      replace B_B := (s2_ _ (by have := HG.out; have := HS2.out; have := HS5.out; omega)).trans B_B
      replace B_R := s1_
      replace HS : ∀ q, q ≠ g2 → q ≠ g3 → q ≠ g5 → _ = vc.heap[q]? := fun q h2_ h3_ h5_ => (s2_ q (by assumption)).trans (HS q h2_ h3_ h5_)
      clear s1_ s2_ s3_
      generalize ((((v1.setCell ⟨g3, 0, none⟩ (.int .i64 0)).setCell ⟨g3, 1, none⟩ (.int .i64 0)).setCell ⟨g3, 2, none⟩ (.string ⟨#[]⟩)).setCell ⟨g3, 3, none⟩ (.slice none 0 0)) = v2 at *
      refine hK.out _ _ ⟨(blk_cell B_H 0).trans rfl, (blk_cell B_H 1).trans rfl, (blk_cell B_H 2).trans rfl, (blk_cell B_H 3).trans rfl, (blk_cell B_R 0).trans rfl, (blk_cell B_R 1).trans rfl, (blk_cell B_R 2).trans rfl, (blk_cell B_R 3).trans rfl, (blk_cell B_B 0).trans rfl, (blk_cell B_B 1).trans rfl, (blk_cell B_B 2).trans rfl, (blk_cell B_B 3).trans rfl⟩ (fun hHeld => ?_)
      clear hK K
      refine pure_ (i := 7) (N := some 4) (v := ?_) (a' := ?_) #[true, true, true, true, true, true, true, true, false] rfl rfl (by kernel_rfl) (fun _ _ _ h => h) (Or.inl ⟨by rfl, ?_⟩) ?_ ?_
      rotate_left
      · intro w'
        go_simp
        with_reducible rfl
      rotate_left
      · simp only [Act.put, List.setIfInBounds_toArray, List.set_cons_zero, List.set_cons_succ, i64_w, i32_w]
        rfl
      refine one_ (i := 8) (N := none) #[true, true, true, true, true, true, true, true, true] rfl rfl (by kernel_rfl) (by decide) (fun K hK => ?_)
      have hst_ : (Instr.storeAt 58 (.pointer (some ⟨g5, 0, none⟩)) (.agg #[.int .i64 b.f0, .int .i64 b.f1, .string b.f2, .slice Ao b.f3.length co])).run Try.prog v2 = .ok () ((((v2.setCell ⟨g5, 0, none⟩ (.int .i64 b.f0)).setCell ⟨g5, 1, none⟩ (.int .i64 b.f1)).setCell ⟨g5, 2, none⟩ (.string b.f2)).setCell ⟨g5, 3, none⟩ (.slice Ao b.f3.length co)) := store4 B_W
      refine skip_ (by rfl) rfl (w1 := ((((v2.setCell ⟨g5, 0, none⟩ (.int .i64 b.f0)).setCell ⟨g5, 1, none⟩ (.int .i64 b.f1)).setCell ⟨g5, 2, none⟩ (.string b.f2)).setCell ⟨g5, 3, none⟩ (.slice Ao b.f3.length co))) (ins_st hst_) ?_
      clear hst_
      obtain ⟨s1_, s2_, s3_⟩ := set4 (.int .i64 b.f0) (.int .i64 b.f1) (.string b.f2) (.slice Ao b.f3.length co) B_W
      replace HB := s3_ _ _ HB (by have := HG.out; have := HS2.out; have := HS5.out; omega)
      replace B_H := (s2_ _ (by have := HG.out; have := HS2.out; have := HS5.out; omega)).trans B_H
      replace B_R := (s2_ _ (by have := HG.out; have := HS2.out; have := HS5.out; omega)).trans B_R
      replace B_B := (s2_ _ (by have := HG.out; have := HS2.out; have := HS5.out; omega)).trans B_B
      replace B_W := s1_
      replace HS : ∀ q, q ≠ g2 → q ≠ g3 → q ≠ g5 → _ = vc.heap[q]? := fun q h2_ h3_ h5_ => (s2_ q (by assumption)).trans (HS q h2_ h3_ h5_)
      clear s1_ s2_ s3_
      generalize ((((v2.setCell ⟨g5, 0, none⟩ (.int .i64 b.f0)).setCell ⟨g5, 1, none⟩ (.int .i64 b.f1)).setCell ⟨g5, 2, none⟩ (.string b.f2)).setCell ⟨g5, 3, none⟩ (.slice Ao b.f3.length co)) = v3 at *
      refine hK.out _ _ ⟨(blk_cell B_H 0).trans rfl, (blk_cell B_H 1).trans rfl, (blk_cell B_H 2).trans rfl, (blk_cell B_H 3).trans rfl, (blk_cell B_R 0).trans rfl, (blk_cell B_R 1).trans rfl, (blk_cell B_R 2).trans rfl, (blk_cell B_R 3).trans rfl, (blk_cell B_B 0).trans rfl, (blk_cell B_B 1).trans rfl, (blk_cell B_B 2).trans rfl, (blk_cell B_B 3).trans rfl⟩ (fun hHeld => ?_)
      clear hK K
      refine done_ (by kernel_rfl) ?_
      go_wp2_with fail
      refine bodyPost_ret (res32 (by rfl) (by rfl) (by rfl) (by rfl) B_H B_R B_W) rfl ?_
      exact ⟨_, _, _, by rw [HV.out], by rw [HV.out]; exact TM_z _ _, by rw [HV.out]; exact TM_z _ _, by rw [HV.out]; exact ⟨Ao, co, rfl, hco, (Kd.F_mono (Kd.F_step hFo (fun q hq _ => HS q (by have := HG.out; have hq2 : v0.heap.size ≤ q := hq; have := HSV; omega) (by have := HG.out; have hq2 : v0.heap.size ≤ q := hq; have := HSV; omega) (by have := HG.out; have hq2 : v0.heap.size ≤ q := hq; have := HSV; omega))) (fun q hq => Or.inr (by have hq2 : v0.heap.size ≤ q := hq; have := HSV; omega)))⟩, HB⟩)
  · skip
    obtain ⟨er, r, hR⟩ : ∃ er r, bodyR b = (er, r) := ⟨_, _, rfl⟩
    have hbody : Aside0 (∀ W : World, (∀ q, ok q → q < W.heap.size) → Kd.F k58 W ok Ab b.f3.length b.f3 → Calls Try.prog 42 #[.agg #[.int .i64 b.f0, .int .i64 b.f1, .string b.f2, .slice Ab b.f3.length cb]] W (fun e w' => ∃ A' c', e = .returned (.tuple #[.agg #[.int .i64 r.f0, .int .i64 r.f1, .string r.f2, .slice A' r.f3.length c'], .int .i64 er]) ∧ r.f3.length ≤ c' ∧ Kd.F k58 w' (fun k => ok k ∨ W.heap.size ≤ k) A' r.f3.length r.f3 ∧ Below W.heap.size W w')) := ⟨fun W h1 h2 => by
      have := Body_calls b SB.out Ab cb W ok h1 h2 CB.out
      unfold BodyP at this
      rw [hR] at this
      exact this⟩
    rw [hR] at hE
    dsimp only at hE
    replace HV := Aside0.mk (show clauseR x = ⟨z58, z58, er, z58⟩ by rw [HV.out]; unfold clauseHBR; rw [if_neg hp.1, if_neg hp.2, hR]; dsimp only; rw [if_neg hE.1, if_neg hE.2])
    have he0 : (er == 0) = false := by simpa using hE.1
    have he1 : (er == 13) = false := by simpa using hE.2
    have q1 : (h.f0 == 1) = false := by simpa using hp.1
    have q2 : (h.f0 == 2) = false := by simpa using hp.2
    clear hp hR
    clear hE
    rcases HI.out with hi0 | ⟨hi0, hi1⟩ | ⟨hi0, hi1, hi2⟩
    all_goals (
      go_wp2_with (first
        | (go_at_call 42
           refine (hbody.out _ (fun q hq => Nat.lt_of_lt_of_le (Hok.out q hq) HB0.out.size) FB.out).mono ?_
           rintro e w5 ⟨Ar, cr, rfl, hcr, hFr, hbl⟩
           have CR_ := Aside0.mk hcr
           have HS4 := Aside0.mk (show w2.heap.size ≤ (((w2.alloc (.cells #[.int .i64 x.f0, .int .i64 x.f1, .string x.f2, .slice A x.f3.length c] 58)).alloc (.cells #[.int .i64 3, .int .i64 0, .string ⟨#[116, 114, 117, 101]⟩, .slice none 0 0] 58))).heap.size from SZ4.out)
           have HS5 := Aside0.mk (show w2.heap.size + 2 ≤ w5.heap.size from Nat.le_trans SZ42.out hbl.size)
           replace HB0 := Aside0.mk (show Below w.heap.size w (w5.alloc (.cells #[.int .i64 r.f0, .int .i64 r.f1, .string r.f2, .slice Ar r.f3.length cr] 58)) from below_alloc (below_step HB0.out hbl) _)
           replace HK2 := Aside0.mk (show (w5.alloc (.cells #[.int .i64 r.f0, .int .i64 r.f1, .string r.f2, .slice Ar r.f3.length cr] 58)).heap[_]? = _ from blk_alloc (blk_below HK2.out hbl) _)
           replace HK3 := Aside0.mk (show (w5.alloc (.cells #[.int .i64 r.f0, .int .i64 r.f1, .string r.f2, .slice Ar r.f3.length cr] 58)).heap[_]? = _ from blk_alloc (blk_below HK3.out hbl) _)
           replace HK5 := Aside0.mk (show (w5.alloc (.cells #[.int .i64 r.f0, .int .i64 r.f1, .string r.f2, .slice Ar r.f3.length cr] 58)).heap[_]? = _ from blk_alloc (blk_below HK5.out hbl) _)
           replace KP := Aside0.mk (show (w5.alloc (.cells #[.int .i64 r.f0, .int .i64 r.f1, .string r.f2, .slice Ar r.f3.length cr] 58)).heap[_]? = _ from blk_alloc (blk_below KP.out hbl) _)
           replace KB := Aside0.mk (show (w5.alloc (.cells #[.int .i64 r.f0, .int .i64 r.f1, .string r.f2, .slice Ar r.f3.length cr] 58)).heap[_]? = _ from blk_alloc (blk_below KB.out hbl) _)
           have KX := Aside0.mk (show (w5.alloc (.cells #[.int .i64 r.f0, .int .i64 r.f1, .string r.f2, .slice Ar r.f3.length cr] 58)).heap[w5.heap.size]? = some (.cells #[.int .i64 r.f0, .int .i64 r.f1, .string r.f2, .slice Ar r.f3.length cr] 58 (0, 0)) from heap_alloc_new _ _)
           replace FH := Aside0.mk (show Kd.F k58 (w5.alloc (.cells #[.int .i64 r.f0, .int .i64 r.f1, .string r.f2, .slice Ar r.f3.length cr] 58)) ok Ah h.f3.length h.f3 from Kd.F_alloc (Kd.F_below FH.out hbl) _)
           replace FB := Aside0.mk (show Kd.F k58 (w5.alloc (.cells #[.int .i64 r.f0, .int .i64 r.f1, .string r.f2, .slice Ar r.f3.length cr] 58)) ok Ab b.f3.length b.f3 from Kd.F_alloc (Kd.F_below FB.out hbl) _)
           have FR := Aside0.mk (show Kd.F k58 (w5.alloc (.cells #[.int .i64 r.f0, .int .i64 r.f1, .string r.f2, .slice Ar r.f3.length cr] 58)) (fun k => ok k ∨ (((w2.alloc (.cells #[.int .i64 x.f0, .int .i64 x.f1, .string x.f2, .slice A x.f3.length c] 58)).alloc (.cells #[.int .i64 3, .int .i64 0, .string ⟨#[116, 114, 117, 101]⟩, .slice none 0 0] 58))).heap.size ≤ k) Ar r.f3.length r.f3 from Kd.F_alloc hFr _)
           have HSY := Aside0.mk (show w.heap.size + 4 ≤ (w5.alloc (.cells #[.int .i64 r.f0, .int .i64 r.f1, .string r.f2, .slice Ar r.f3.length cr] 58)).heap.size by have := HS2.out; have := HS5.out; have h9 : (w5.alloc (.cells #[.int .i64 r.f0, .int .i64 r.f1, .string r.f2, .slice Ar r.f3.length cr] 58)).heap.size = w5.heap.size + 1 := al_sz _ _; omega)
           clear hFr hbl hcr))
      have B_H := HK2.out
      have B_R := HK3.out
      have B_W := HK5.out
      have HB := HB0.out
      generalize (w5.alloc (.cells #[.int .i64 r.f0, .int .i64 r.f1, .string r.f2, .slice Ar r.f3.length cr] 58)) = y0 at *
      refine start_ (n := 8) (S := fun w' => w'.cell? ⟨g2, 0, none⟩ = some (.int .i64 0) ∧ w'.cell? ⟨g2, 1, none⟩ = some (.int .i64 0) ∧ w'.cell? ⟨g2, 2, none⟩ = some (.string ⟨#[]⟩) ∧ w'.cell? ⟨g2, 3, none⟩ = some (.slice none 0 0) ∧ w'.cell? ⟨g3, 0, none⟩ = some (.int .i64 0) ∧ w'.cell? ⟨g3, 1, none⟩ = some (.int .i64 0) ∧ w'.cell? ⟨g3, 2, none⟩ = some (.string ⟨#[]⟩) ∧ w'.cell? ⟨g3, 3, none⟩ = some (.slice none 0 0) ∧ w'.cell? ⟨g5, 0, none⟩ = some (.int .i64 0) ∧ w'.cell? ⟨g5, 1, none⟩ = some (.int .i64 0) ∧ w'.cell? ⟨g5, 2, none⟩ = some (.string ⟨#[]⟩) ∧ w'.cell? ⟨g5, 3, none⟩ = some (.slice none 0 0)) (ds := []) #[false, false, false, false, false, false, false, false] (by kernel_rfl) rfl rfl ⟨(blk_cell (blk_drew B_H) 0).trans rfl, (blk_cell (blk_drew B_H) 1).trans rfl, (blk_cell (blk_drew B_H) 2).trans rfl, (blk_cell (blk_drew B_H) 3).trans rfl, (blk_cell (blk_drew B_R) 0).trans rfl, (blk_cell (blk_drew B_R) 1).trans rfl, (blk_cell (blk_drew B_R) 2).trans rfl, (blk_cell (blk_drew B_R) 3).trans rfl, (blk_cell (blk_drew B_W) 0).trans rfl, (blk_cell (blk_drew B_W) 1).trans rfl, (blk_cell (blk_drew B_W) 2).trans rfl, (blk_cell (blk_drew B_W) 3).trans rfl⟩ (fun hHeld => ?_)
      replace B_H := blk_drew B_H
      replace B_R := blk_drew B_R
      replace B_W := blk_drew B_W
      replace HB := HB.drew
      generalize y0.drew = v0 at *
      have HS : ∀ q, q ≠ g2 → q ≠ g3 → q ≠ g5 → v0.heap[q]? = v0.heap[q]? := fun _ _ _ _ => rfl
      refine take_ (i := 0) (N := some 73) (v := ?_) (a' := ?_) #[true, false, false, false, false, false, false, false] rfl rfl (by kernel_rfl) (fun _ _ _ h => h) (Or.inl ⟨by rfl, ?_⟩) hHeld ?_ ?_
      rotate_left
      · rintro w' ⟨s0, s1, s2, s3, s4, s5, s6, s7, s8, s9, s10, s11⟩
        go_simp
        with_reducible rfl
      rotate_left
      · simp only [Act.put, List.setIfInBounds_toArray, List.set_cons_zero, List.set_cons_succ, i64_w, i32_w]
        rfl
      refine take_ (i := 1) (N := some 74) (v := ?_) (a' := ?_) #[true, true, false, false, false, false, false, false] rfl rfl (by kernel_rfl) (fun _ _ _ h => h) (Or.inl ⟨by rfl, ?_⟩) hHeld ?_ ?_
      rotate_left
      · rintro w' ⟨s0, s1, s2, s3, s4, s5, s6, s7, s8, s9, s10, s11⟩
        go_simp
        with_reducible rfl
      rotate_left
      · simp only [Act.put, List.setIfInBounds_toArray, List.set_cons_zero, List.set_cons_succ, i64_w, i32_w]
        rfl
      refine pure_ (i := 2) (N := some 75) (v := ?_) (a' := ?_) #[true, true, true, false, false, false, false, false] rfl rfl (by kernel_rfl) (fun _ _ _ h => h) (Or.inl ⟨by rfl, ?_⟩) ?_ ?_
      rotate_left
      · intro w'
        go_simp
        with_reducible rfl
      rotate_left
      · simp only [Act.put, List.setIfInBounds_toArray, List.set_cons_zero, List.set_cons_succ, i64_w, i32_w]
        rfl
      refine take_ (i := 3) (N := some 76) (v := ?_) (a' := ?_) #[true, true, true, true, false, false, false, false] rfl rfl (by kernel_rfl) (fun _ _ _ h => h) (Or.inl ⟨by rfl, ?_⟩) hHeld ?_ ?_
      rotate_left
      · rintro w' ⟨s0, s1, s2, s3, s4, s5, s6, s7, s8, s9, s10, s11⟩
        go_simp
        with_reducible rfl
      rotate_left
      · simp only [Act.put, List.setIfInBounds_toArray, List.set_cons_zero, List.set_cons_succ, i64_w, i32_w]
        rfl
      refine one_ (i := 4) (N := none) #[true, true, true, true, true, false, false, false] rfl rfl (by kernel_rfl) (by decide) (fun K hK => ?_)
      have hst_ : (Instr.storeAt 58 (.pointer (some ⟨g2, 0, none⟩)) (.agg #[.int .i64 0, .int .i64 0, .string ⟨#[]⟩, .slice none 0 0])).run Try.prog v0 = .ok () ((((v0.setCell ⟨g2, 0, none⟩ (.int .i64 0)).setCell ⟨g2, 1, none⟩ (.int .i64 0)).setCell ⟨g2, 2, none⟩ (.string ⟨#[]⟩)).setCell ⟨g2, 3, none⟩ (.slice none 0 0)) := store4 B_H
      refine skip_ (by rfl) rfl (w1 := ((((v0.setCell ⟨g2, 0, none⟩ (.int .i64 0)).setCell ⟨g2, 1, none⟩ (.int .i64 0)).setCell ⟨g2, 2, none⟩ (.string ⟨#[]⟩)).setCell ⟨g2, 3, none⟩ (.slice none 0 0))) (ins_st hst_) ?_
      clear hst_
      obtain ⟨s1_, s2_, s3_⟩ := set4 (.int .i64 0) (.int .i64 0) (.string ⟨#[]⟩) (.slice none 0 0) B_H
      replace HB := s3_ _ _ HB (by have := HG.out; have := HS2.out; have := HS5.out; omega)
      replace B_R := (s2_ _ (by have := HG.out; have := HS2.out; have := HS5.out; omega)).trans B_R
      replace B_W := (s2_ _ (by have := HG.out; have := HS2.out; have := HS5.out; omega)).trans B_W
      replace B_H := s1_
      replace HS : ∀ q, q ≠ g2 → q ≠ g3 → q ≠ g5 → _ = v0.heap[q]? := fun q h2_ h3_ h5_ => (s2_ q (by assumption)).trans (HS q h2_ h3_ h5_)
      clear s1_ s2_ s3_
      generalize ((((v0.setCell ⟨g2, 0, none⟩ (.int .i64 0)).setCell ⟨g2, 1, none⟩ (.int .i64 0)).setCell ⟨g2, 2, none⟩ (.string ⟨#[]⟩)).setCell ⟨g2, 3, none⟩ (.slice none 0 0)) = v1 at *
      refine hK.out _ _ ⟨(blk_cell B_H 0).trans rfl, (blk_cell B_H 1).trans rfl, (blk_cell B_H 2).trans rfl, (blk_cell B_H 3).trans rfl, (blk_cell B_R 0).trans rfl, (blk_cell B_R 1).trans rfl, (blk_cell B_R 2).trans rfl, (blk_cell B_R 3).trans rfl, (blk_cell B_W 0).trans rfl, (blk_cell B_W 1).trans rfl, (blk_cell B_W 2).trans rfl, (blk_cell B_W 3).trans rfl⟩ (fun hHeld => ?_)
      clear hK K
      refine one_ (i := 5) (N := none) #[true, true, true, true, true, true, false, false] rfl rfl (by kernel_rfl) (by decide) (fun K hK => ?_)
      have hst_ : (Instr.storeAt 58 (.pointer (some ⟨g3, 0, none⟩)) (.agg #[.int .i64 0, .int .i64 0, .string ⟨#[]⟩, .slice none 0 0])).run Try.prog v1 = .ok () ((((v1.setCell ⟨g3, 0, none⟩ (.int .i64 0)).setCell ⟨g3, 1, none⟩ (.int .i64 0)).setCell ⟨g3, 2, none⟩ (.string ⟨#[]⟩)).setCell ⟨g3, 3, none⟩ (.slice none 0 0)) := store4 B_R
      refine skip_ (by rfl) rfl (w1 := ((((v1.setCell ⟨g3, 0, none⟩ (.int .i64 0)).setCell ⟨g3, 1, none⟩ (.int .i64 0)).setCell ⟨g3, 2, none⟩ (.string ⟨#[]⟩)).setCell ⟨g3, 3, none⟩ (.slice none 0 0))) (ins_st hst_) ?_
      clear hst_
      obtain ⟨s1_, s2_, s3_⟩ := set4 (.int .i64 0) (.int .i64 0) (.string ⟨#[]⟩) (.slice none 0 0) B_R
      replace HB := s3_ _ _ HB (by have := HG.out; have := HS2.out; have := HS5.out; omega)
      replace B_H := (s2_ _ (by have := HG.out; have := HS2.out; have := HS5.out; omega)).trans B_H
      replace B_W := (s2_ _ (by have := HG.out; have := HS2.out; have := HS5.out; omega)).trans B_W
      replace B_R := s1_
      replace HS : ∀ q, q ≠ g2 → q ≠ g3 → q ≠ g5 → _ = v0.heap[q]? := fun q h2_ h3_ h5_ => (s2_ q (by assumption)).trans (HS q h2_ h3_ h5_)
      clear s1_ s2_ s3_
      generalize ((((v1.setCell ⟨g3, 0, none⟩ (.int .i64 0)).setCell ⟨g3, 1, none⟩ (.int .i64 0)).setCell ⟨g3, 2, none⟩ (.string ⟨#[]⟩)).setCell ⟨g3, 3, none⟩ (.slice none 0 0)) = v2 at *
      refine hK.out _ _ ⟨(blk_cell B_H 0).trans rfl, (blk_cell B_H 1).trans rfl, (blk_cell B_H 2).trans rfl, (blk_cell B_H 3).trans rfl, (blk_cell B_R 0).trans rfl, (blk_cell B_R 1).trans rfl, (blk_cell B_R 2).trans rfl, (blk_cell B_R 3).trans rfl, (blk_cell B_W 0).trans rfl, (blk_cell B_W 1).trans rfl, (blk_cell B_W 2).trans rfl, (blk_cell B_W 3).trans rfl⟩ (fun hHeld => ?_)
      clear hK K
      refine pure_ (i := 6) (N := some 4) (v := ?_) (a' := ?_) #[true, true, true, true, true, true, true, false] rfl rfl (by kernel_rfl) (fun _ _ _ h => h) (Or.inl ⟨by rfl, ?_⟩) ?_ ?_
      rotate_left
      · intro w'
        go_simp
        with_reducible rfl
      rotate_left
      · simp only [Act.put, List.setIfInBounds_toArray, List.set_cons_zero, List.set_cons_succ, i64_w, i32_w]
        rfl
      refine one_ (i := 7) (N := none) #[true, true, true, true, true, true, true, true] rfl rfl (by kernel_rfl) (by decide) (fun K hK => ?_)
      have hst_ : (Instr.storeAt 58 (.pointer (some ⟨g5, 0, none⟩)) (.agg #[.int .i64 0, .int .i64 0, .string ⟨#[]⟩, .slice none 0 0])).run Try.prog v2 = .ok () ((((v2.setCell ⟨g5, 0, none⟩ (.int .i64 0)).setCell ⟨g5, 1, none⟩ (.int .i64 0)).setCell ⟨g5, 2, none⟩ (.string ⟨#[]⟩)).setCell ⟨g5, 3, none⟩ (.slice none 0 0)) := store4 B_W
      refine skip_ (by rfl) rfl (w1 := ((((v2.setCell ⟨g5, 0, none⟩ (.int .i64 0)).setCell ⟨g5, 1, none⟩ (.int .i64 0)).setCell ⟨g5, 2, none⟩ (.string ⟨#[]⟩)).setCell ⟨g5, 3, none⟩ (.slice none 0 0))) (ins_st hst_) ?_
      clear hst_
      obtain ⟨s1_, s2_, s3_⟩ := set4 (.int .i64 0) (.int .i64 0) (.string ⟨#[]⟩) (.slice none 0 0) B_W
      replace HB := s3_ _ _ HB (by have := HG.out; have := HS2.out; have := HS5.out; omega)
      replace B_H := (s2_ _ (by have := HG.out; have := HS2.out; have := HS5.out; omega)).trans B_H
      replace B_R := (s2_ _ (by have := HG.out; have := HS2.out; have := HS5.out; omega)).trans B_R
      replace B_W := s1_
      replace HS : ∀ q, q ≠ g2 → q ≠ g3 → q ≠ g5 → _ = v0.heap[q]? := fun q h2_ h3_ h5_ => (s2_ q (by assumption)).trans (HS q h2_ h3_ h5_)
      clear s1_ s2_ s3_
      generalize ((((v2.setCell ⟨g5, 0, none⟩ (.int .i64 0)).setCell ⟨g5, 1, none⟩ (.int .i64 0)).setCell ⟨g5, 2, none⟩ (.string ⟨#[]⟩)).setCell ⟨g5, 3, none⟩ (.slice none 0 0)) = v3 at *
      refine hK.out _ _ ⟨(blk_cell B_H 0).trans rfl, (blk_cell B_H 1).trans rfl, (blk_cell B_H 2).trans rfl, (blk_cell B_H 3).trans rfl, (blk_cell B_R 0).trans rfl, (blk_cell B_R 1).trans rfl, (blk_cell B_R 2).trans rfl, (blk_cell B_R 3).trans rfl, (blk_cell B_W 0).trans rfl, (blk_cell B_W 1).trans rfl, (blk_cell B_W 2).trans rfl, (blk_cell B_W 3).trans rfl⟩ (fun hHeld => ?_)
      clear hK K
      refine done_ (by kernel_rfl) ?_
      go_wp2_with fail
      refine bodyPost_ret (res32 (by rfl) (by rfl) (by rfl) (by rfl) B_H B_R B_W) rfl ?_
      exact ⟨_, _, _, by rw [HV.out], by rw [HV.out]; exact TM_z _ _, by rw [HV.out]; exact TM_z _ _, by rw [HV.out]; exact TM_z _ _, HB⟩)
end Go.Proofs.Ythdnaliahdohhaa.H
