/- Goals: a term as a clause (goal.Clause), part. -/
import Derived.Test.YthdnaliahdohhaaHHclause0
namespace Go.Proofs.Ythdnaliahdohhaa.H
open Go.RowKit Go.Proofs.YthdnaliahdohhaaW.PrintWords Go.Proofs.YthdnaliahdohhaaW.PrintLast Go.Proofs.YthdnaliahdohhaaW.PrintMore Go.Proofs.Ythdnaliahdohhaa.Map Go.Proofs.Ythdnaliahdohhaa.Reg
attribute [local go_sem] max2_int min2_int max_two min_two max_three min_three max_four min_four
set_option linter.unusedVariables false
set_option linter.unusedSimpArgs false
set_option maxHeartbeats 8000000 in
set_option maxRecDepth 100000 in
theorem clause_1 (k m : Int) (s : ByteArray) (h b : S58) (ad : Addr) (c : Nat) (w : World) (ok : Nat → Prop) (hok : ∀ q, ok q → q < w.heap.size) (hx : szT ⟨k, m, s, [h, b]⟩ ≤ 400000) (hF : Kd.F k58 w ok (some ad) 2 [h, b]) (hc : 2 ≤ c) (he : chk ⟨k, m, s, [h, b]⟩ = 0) (hk : k = 4 ∧ s = ⟨#[58, 45]⟩) (Ah Ab : Option Addr) (ch cb : Nat) (e0 : w.cell? ad = some (.int .i64 h.f0)) (e1 : w.cell? ⟨ad.block, ad.off + 1, none⟩ = some (.int .i64 h.f1)) (e2 : w.cell? ⟨ad.block, ad.off + 2, none⟩ = some (.string h.f2)) (e3 : w.cell? ⟨ad.block, ad.off + 3, none⟩ = some (.slice Ah h.f3.length ch)) (e4 : w.cell? ⟨ad.block, ad.off + 4, none⟩ = some (.int .i64 b.f0)) (e5 : w.cell? ⟨ad.block, ad.off + 4 + 1, none⟩ = some (.int .i64 b.f1)) (e6 : w.cell? ⟨ad.block, ad.off + 4 + 2, none⟩ = some (.string b.f2)) (e7 : w.cell? ⟨ad.block, ad.off + 4 + 3, none⟩ = some (.slice Ab b.f3.length cb)) (hch : h.f3.length ≤ ch) (hcb : b.f3.length ≤ cb) (hFh : Kd.F k58 w ok Ah h.f3.length h.f3) (hFb : Kd.F k58 w ok Ab b.f3.length b.f3) :
    Calls Try.prog 32 #[.agg #[.int .i64 k, .int .i64 m, .string s, .slice (some ad) 2 c]] w (ClauseP ⟨k, m, s, [h, b]⟩ w ok) := by
  have HV : Aside0 (clauseR ⟨k, m, s, [h, b]⟩ = clauseHBR h b) := ⟨by rw [clauseR_of he]; unfold clauseHB; rw [if_pos (by unfold isClause; simp [hk.1, hk.2])]; rfl⟩
  have hsz : szT h + szT b + 1 = szT ⟨k, m, s, [h, b]⟩ := by simp [szT, szL]
  have SH : Aside0 (szT h ≤ 400000) := ⟨by omega⟩
  have SB : Aside0 (szT b ≤ 400000) := ⟨by omega⟩
  clear hsz
  have CH := Aside0.mk hch
  have CB := Aside0.mk hcb
  have Fh := Aside0.mk hFh
  have Fb := Aside0.mk hFb
  clear hch hcb hFh hFb
  replace e0 := Aside0.mk e0
  replace e1 := Aside0.mk e1
  replace e2 := Aside0.mk e2
  replace e3 := Aside0.mk e3
  replace e4 := Aside0.mk e4
  replace e5 := Aside0.mk e5
  replace e6 := Aside0.mk e6
  replace e7 := Aside0.mk e7
  have HB0 : Aside0 (Below w.heap.size w ((((w.alloc (.cells #[.int .i64 k, .int .i64 m, .string s, .slice (some ad) 2 c] 58)).alloc (.cells #[.int .i64 0, .int .i64 0, .string ⟨#[]⟩, .slice none 0 0] 58)).alloc (.cells #[.int .i64 0, .int .i64 0, .string ⟨#[]⟩, .slice none 0 0] 58)).alloc (.cells #[.int .i64 0, .int .i64 0, .string ⟨#[]⟩, .slice none 0 0] 58))) := ⟨below_alloc (below_alloc (below_alloc (below_alloc (Below.refl _ _) _) _) _) _⟩
  have HK1 : Aside0 (((((w.alloc (.cells #[.int .i64 k, .int .i64 m, .string s, .slice (some ad) 2 c] 58)).alloc (.cells #[.int .i64 0, .int .i64 0, .string ⟨#[]⟩, .slice none 0 0] 58)).alloc (.cells #[.int .i64 0, .int .i64 0, .string ⟨#[]⟩, .slice none 0 0] 58)).alloc (.cells #[.int .i64 0, .int .i64 0, .string ⟨#[]⟩, .slice none 0 0] 58)).heap[w.heap.size]? = some (.cells #[.int .i64 k, .int .i64 m, .string s, .slice (some ad) 2 c] 58 (0, 0))) := ⟨blk_alloc (blk_alloc (blk_alloc (heap_alloc_new _ _) _) _) _⟩
  have HK2 : Aside0 (((((w.alloc (.cells #[.int .i64 k, .int .i64 m, .string s, .slice (some ad) 2 c] 58)).alloc (.cells #[.int .i64 0, .int .i64 0, .string ⟨#[]⟩, .slice none 0 0] 58)).alloc (.cells #[.int .i64 0, .int .i64 0, .string ⟨#[]⟩, .slice none 0 0] 58)).alloc (.cells #[.int .i64 0, .int .i64 0, .string ⟨#[]⟩, .slice none 0 0] 58)).heap[w.heap.size + 1]? = some (.cells #[.int .i64 0, .int .i64 0, .string ⟨#[]⟩, .slice none 0 0] 58 (0, 0))) := ⟨blk_alloc (blk_alloc (by have := heap_alloc_new (w.alloc (.cells #[.int .i64 k, .int .i64 m, .string s, .slice (some ad) 2 c] 58)) (.cells #[.int .i64 0, .int .i64 0, .string ⟨#[]⟩, .slice none 0 0] 58); simpa using this) _) _⟩
  have HK3 : Aside0 (((((w.alloc (.cells #[.int .i64 k, .int .i64 m, .string s, .slice (some ad) 2 c] 58)).alloc (.cells #[.int .i64 0, .int .i64 0, .string ⟨#[]⟩, .slice none 0 0] 58)).alloc (.cells #[.int .i64 0, .int .i64 0, .string ⟨#[]⟩, .slice none 0 0] 58)).alloc (.cells #[.int .i64 0, .int .i64 0, .string ⟨#[]⟩, .slice none 0 0] 58)).heap[w.heap.size + 1 + 1]? = some (.cells #[.int .i64 0, .int .i64 0, .string ⟨#[]⟩, .slice none 0 0] 58 (0, 0))) := ⟨blk_alloc (by have := heap_alloc_new ((w.alloc (.cells #[.int .i64 k, .int .i64 m, .string s, .slice (some ad) 2 c] 58)).alloc (.cells #[.int .i64 0, .int .i64 0, .string ⟨#[]⟩, .slice none 0 0] 58)) (.cells #[.int .i64 0, .int .i64 0, .string ⟨#[]⟩, .slice none 0 0] 58); simpa using this) _⟩
  have HK5 : Aside0 (((((w.alloc (.cells #[.int .i64 k, .int .i64 m, .string s, .slice (some ad) 2 c] 58)).alloc (.cells #[.int .i64 0, .int .i64 0, .string ⟨#[]⟩, .slice none 0 0] 58)).alloc (.cells #[.int .i64 0, .int .i64 0, .string ⟨#[]⟩, .slice none 0 0] 58)).alloc (.cells #[.int .i64 0, .int .i64 0, .string ⟨#[]⟩, .slice none 0 0] 58)).heap[w.heap.size + 1 + 1 + 1]? = some (.cells #[.int .i64 0, .int .i64 0, .string ⟨#[]⟩, .slice none 0 0] 58 (0, 0))) := ⟨by have := heap_alloc_new (((w.alloc (.cells #[.int .i64 k, .int .i64 m, .string s, .slice (some ad) 2 c] 58)).alloc (.cells #[.int .i64 0, .int .i64 0, .string ⟨#[]⟩, .slice none 0 0] 58)).alloc (.cells #[.int .i64 0, .int .i64 0, .string ⟨#[]⟩, .slice none 0 0] 58)) (.cells #[.int .i64 0, .int .i64 0, .string ⟨#[]⟩, .slice none 0 0] 58); simpa using this⟩
  have HF := Aside0.mk (Kd.F_below hF HB0.out)
  have Hc := Aside0.mk hc
  have Hx := Aside0.mk hx
  have Hok := Aside0.mk hok
  clear hF hc hx hok
  have hcalls := Aside0.mk (chk_calls ⟨k, m, s, [h, b]⟩ (by have := Hx.out; omega) (some ad) c)
  rw [he] at hcalls
  clear he
  have hi0 : (k == 4) = true := by simpa using hk.1
  have hi1 : (s.toList == [58, 45]) = true := by rw [hk.2, tl_cl]; rfl
  clear hk
  go_enter Try.func32, Try.ntmps32
  go_wp2_with fail
  generalize ((((w.alloc (.cells #[.int .i64 k, .int .i64 m, .string s, .slice (some ad) 2 c] 58)).alloc (.cells #[.int .i64 0, .int .i64 0, .string ⟨#[]⟩, .slice none 0 0] 58)).alloc (.cells #[.int .i64 0, .int .i64 0, .string ⟨#[]⟩, .slice none 0 0] 58)).alloc (.cells #[.int .i64 0, .int .i64 0, .string ⟨#[]⟩, .slice none 0 0] 58)) = w1 at *
  obtain ⟨g5, hg5⟩ : ∃ g5, g5 = w.heap.size + 1 + 1 + 1 := ⟨_, rfl⟩
  obtain ⟨g3, hg3⟩ : ∃ g3, g3 = w.heap.size + 1 + 1 := ⟨_, rfl⟩
  obtain ⟨g2, hg2⟩ : ∃ g2, g2 = w.heap.size + 1 := ⟨_, rfl⟩
  obtain ⟨g1, hg1⟩ : ∃ g1, g1 = w.heap.size := ⟨_, rfl⟩
  rw [← hg5] at HK5
  rw [← hg3] at HK3
  rw [← hg2] at HK2
  rw [← hg1] at HK1
  rw [← hg5, ← hg3, ← hg2, ← hg1]
  have HG := Aside0.mk (show g1 = w.heap.size ∧ g2 = w.heap.size + 1 ∧ g3 = w.heap.size + 1 + 1 ∧ g5 = w.heap.size + 1 + 1 + 1 from ⟨hg1, hg2, hg3, hg5⟩)
  clear hg1 hg2 hg3 hg5
  refine (hcalls.out _ (Kd.F_now HF.out)).mono ?_
  rintro e w2 ⟨rfl, hb⟩
  replace HB0 := Aside0.mk (below_step HB0.out hb)
  replace HK1 := Aside0.mk (blk_below HK1.out hb)
  replace HK2 := Aside0.mk (blk_below HK2.out hb)
  replace HK3 := Aside0.mk (blk_below HK3.out hb)
  replace HK5 := Aside0.mk (blk_below HK5.out hb)
  replace HF := Aside0.mk (Kd.F_below HF.out hb)
  clear hb w1
  have c10 : w2.cell? ⟨g1, 0, none⟩ = some (.int .i64 k) := (blk_cell HK1.out 0).trans rfl
  have c11 : w2.cell? ⟨g1, 1, none⟩ = some (.int .i64 m) := (blk_cell HK1.out 1).trans rfl
  have c12 : w2.cell? ⟨g1, 2, none⟩ = some (.string s) := (blk_cell HK1.out 2).trans rfl
  have c13 : w2.cell? ⟨g1, 3, none⟩ = some (.slice (some ad) 2 c) := (blk_cell HK1.out 3).trans rfl
  have HS2 := Aside0.mk (show w.heap.size + 3 < w2.heap.size by have := blk_lt HK5.out; have := HG.out; omega)
  replace HB0 := Aside0.mk (show Below w.heap.size w ((w2.alloc (.cells #[.int .i64 k, .int .i64 m, .string s, .slice (some ad) 2 c] 58)).alloc (.cells #[.int .i64 3, .int .i64 0, .string ⟨#[116, 114, 117, 101]⟩, .slice none 0 0] 58)) from below_alloc (below_alloc HB0.out _) _)
  clear HF
  replace HK1 := Aside0.mk (show ((w2.alloc (.cells #[.int .i64 k, .int .i64 m, .string s, .slice (some ad) 2 c] 58)).alloc (.cells #[.int .i64 3, .int .i64 0, .string ⟨#[116, 114, 117, 101]⟩, .slice none 0 0] 58)).heap[g1]? = _ from blk_alloc (blk_alloc HK1.out _) _)
  replace HK2 := Aside0.mk (show ((w2.alloc (.cells #[.int .i64 k, .int .i64 m, .string s, .slice (some ad) 2 c] 58)).alloc (.cells #[.int .i64 3, .int .i64 0, .string ⟨#[116, 114, 117, 101]⟩, .slice none 0 0] 58)).heap[g2]? = _ from blk_alloc (blk_alloc HK2.out _) _)
  replace HK3 := Aside0.mk (show ((w2.alloc (.cells #[.int .i64 k, .int .i64 m, .string s, .slice (some ad) 2 c] 58)).alloc (.cells #[.int .i64 3, .int .i64 0, .string ⟨#[116, 114, 117, 101]⟩, .slice none 0 0] 58)).heap[g3]? = _ from blk_alloc (blk_alloc HK3.out _) _)
  replace HK5 := Aside0.mk (show ((w2.alloc (.cells #[.int .i64 k, .int .i64 m, .string s, .slice (some ad) 2 c] 58)).alloc (.cells #[.int .i64 3, .int .i64 0, .string ⟨#[116, 114, 117, 101]⟩, .slice none 0 0] 58)).heap[g5]? = _ from blk_alloc (blk_alloc HK5.out _) _)
  have KP := Aside0.mk (show ((w2.alloc (.cells #[.int .i64 k, .int .i64 m, .string s, .slice (some ad) 2 c] 58)).alloc (.cells #[.int .i64 3, .int .i64 0, .string ⟨#[116, 114, 117, 101]⟩, .slice none 0 0] 58)).heap[w2.heap.size]? = some (.cells #[.int .i64 k, .int .i64 m, .string s, .slice (some ad) 2 c] 58 (0, 0)) from blk_alloc (heap_alloc_new _ _) _)
  have KB := Aside0.mk (show ((w2.alloc (.cells #[.int .i64 k, .int .i64 m, .string s, .slice (some ad) 2 c] 58)).alloc (.cells #[.int .i64 3, .int .i64 0, .string ⟨#[116, 114, 117, 101]⟩, .slice none 0 0] 58)).heap[w2.heap.size + 1]? = some (.cells #[.int .i64 3, .int .i64 0, .string ⟨#[116, 114, 117, 101]⟩, .slice none 0 0] 58 (0, 0)) from by have := heap_alloc_new (w2.alloc (.cells #[.int .i64 k, .int .i64 m, .string s, .slice (some ad) 2 c] 58)) (.cells #[.int .i64 3, .int .i64 0, .string ⟨#[116, 114, 117, 101]⟩, .slice none 0 0] 58); simpa using this)
  have d10 : ((w2.alloc (.cells #[.int .i64 k, .int .i64 m, .string s, .slice (some ad) 2 c] 58)).alloc (.cells #[.int .i64 3, .int .i64 0, .string ⟨#[116, 114, 117, 101]⟩, .slice none 0 0] 58)).cell? ⟨g1, 0, none⟩ = some (.int .i64 k) := (blk_cell HK1.out 0).trans rfl
  have d11 : ((w2.alloc (.cells #[.int .i64 k, .int .i64 m, .string s, .slice (some ad) 2 c] 58)).alloc (.cells #[.int .i64 3, .int .i64 0, .string ⟨#[116, 114, 117, 101]⟩, .slice none 0 0] 58)).cell? ⟨g1, 1, none⟩ = some (.int .i64 m) := (blk_cell HK1.out 1).trans rfl
  have d12 : ((w2.alloc (.cells #[.int .i64 k, .int .i64 m, .string s, .slice (some ad) 2 c] 58)).alloc (.cells #[.int .i64 3, .int .i64 0, .string ⟨#[116, 114, 117, 101]⟩, .slice none 0 0] 58)).cell? ⟨g1, 2, none⟩ = some (.string s) := (blk_cell HK1.out 2).trans rfl
  have d13 : ((w2.alloc (.cells #[.int .i64 k, .int .i64 m, .string s, .slice (some ad) 2 c] 58)).alloc (.cells #[.int .i64 3, .int .i64 0, .string ⟨#[116, 114, 117, 101]⟩, .slice none 0 0] 58)).cell? ⟨g1, 3, none⟩ = some (.slice (some ad) 2 c) := (blk_cell HK1.out 3).trans rfl
  go_wp2_with fail
  clear c10 c11 c12 c13 d10 d11 d12 d13
  have B_1 := HK1.out
  have B_P := KP.out
  have B_B := KB.out
  have B_2 := HK2.out
  have B_3 := HK3.out
  have B_5 := HK5.out
  have HB := HB0.out
  clear HK1 KP KB HK2 HK3 HK5 HB0
  generalize ((w2.alloc (.cells #[.int .i64 k, .int .i64 m, .string s, .slice (some ad) 2 c] 58)).alloc (.cells #[.int .i64 3, .int .i64 0, .string ⟨#[116, 114, 117, 101]⟩, .slice none 0 0] 58)) = y0 at *
  refine start_ (n := 10) (S := fun w' => w'.cell? ⟨g1, 3, none⟩ = some (.slice (some ad) 2 c) ∧ w'.cell? ad = some (.int .i64 h.f0) ∧ w'.cell? ⟨ad.block, ad.off + 1, none⟩ = some (.int .i64 h.f1) ∧ w'.cell? ⟨ad.block, ad.off + 2, none⟩ = some (.string h.f2) ∧ w'.cell? ⟨ad.block, ad.off + 3, none⟩ = some (.slice Ah h.f3.length ch) ∧ w'.cell? ⟨ad.block, ad.off + 4, none⟩ = some (.int .i64 b.f0) ∧ w'.cell? ⟨ad.block, ad.off + 4 + 1, none⟩ = some (.int .i64 b.f1) ∧ w'.cell? ⟨ad.block, ad.off + 4 + 2, none⟩ = some (.string b.f2) ∧ w'.cell? ⟨ad.block, ad.off + 4 + 3, none⟩ = some (.slice Ab b.f3.length cb)) (ds := []) #[false, false, false, false, false, false, false, false, false, false] (by kernel_rfl) rfl rfl ⟨(blk_cell (blk_drew B_1) 3).trans rfl, ck HB.drew e0.out, ck HB.drew e1.out, ck HB.drew e2.out, ck HB.drew e3.out, ck HB.drew e4.out, ck HB.drew e5.out, ck HB.drew e6.out, ck HB.drew e7.out⟩ (fun hHeld => ?_)
  replace B_1 := blk_drew B_1
  replace B_P := blk_drew B_P
  replace B_B := blk_drew B_B
  replace B_2 := blk_drew B_2
  replace B_3 := blk_drew B_3
  replace B_5 := blk_drew B_5
  replace HB := HB.drew
  generalize y0.drew = u0 at *
  refine pure_ (i := 0) (N := some 34) (v := ?_) (a' := ?_) #[true, false, false, false, false, false, false, false, false, false] rfl rfl (by kernel_rfl) (fun _ _ _ h => h) (Or.inl ⟨by rfl, ?_⟩) ?_ ?_
  rotate_left
  · intro w'
    go_simp
    with_reducible rfl
  rotate_left
  · simp only [Act.put, List.setIfInBounds_toArray, List.set_cons_zero, List.set_cons_succ, i64_w, i32_w]
    rfl
  refine take_ (i := 1) (N := some 35) (v := ?_) (a' := ?_) #[true, true, false, false, false, false, false, false, false, false] rfl rfl (by kernel_rfl) (fun _ _ _ h => h) (Or.inl ⟨by rfl, ?_⟩) hHeld ?_ ?_
  rotate_left
  · rintro w' ⟨s0, s1, s2, s3, s4, s5, s6, s7, s8⟩
    go_simp
    with_reducible rfl
  rotate_left
  · simp only [Act.put, List.setIfInBounds_toArray, List.set_cons_zero, List.set_cons_succ, i64_w, i32_w]
    rfl
  refine pure_ (i := 2) (N := some 36) (v := ?_) (a' := ?_) #[true, true, true, false, false, false, false, false, false, false] rfl rfl (by kernel_rfl) (fun _ _ _ h => h) (Or.inl ⟨by rfl, ?_⟩) ?_ ?_
  rotate_left
  · intro w'
    go_simp
    with_reducible rfl
  rotate_left
  · simp only [Act.put, List.setIfInBounds_toArray, List.set_cons_zero, List.set_cons_succ, i64_w, i32_w]
    rfl
  refine take_ (i := 3) (N := some 37) (v := ?_) (a' := ?_) #[true, true, true, true, false, false, false, false, false, false] rfl rfl (by kernel_rfl) (fun _ _ _ h => h) (Or.inl ⟨by rfl, ?_⟩) hHeld ?_ ?_
  rotate_left
  · rintro w' ⟨s0, s1, s2, s3, s4, s5, s6, s7, s8⟩
    go_simp
    with_reducible rfl
  rotate_left
  · simp only [Act.put, List.setIfInBounds_toArray, List.set_cons_zero, List.set_cons_succ, i64_w, i32_w]
    rfl
  refine pure_ (i := 4) (N := some 38) (v := ?_) (a' := ?_) #[true, true, true, true, true, false, false, false, false, false] rfl rfl (by kernel_rfl) (fun _ _ _ h => h) (Or.inl ⟨by rfl, ?_⟩) ?_ ?_
  rotate_left
  · intro w'
    go_simp
    with_reducible rfl
  rotate_left
  · simp only [Act.put, List.setIfInBounds_toArray, List.set_cons_zero, List.set_cons_succ, i64_w, i32_w]
    rfl
  refine take_ (i := 5) (N := some 39) (v := ?_) (a' := ?_) #[true, true, true, true, true, true, false, false, false, false] rfl rfl (by kernel_rfl) (fun _ _ _ h => h) (Or.inl ⟨by rfl, ?_⟩) hHeld ?_ ?_
  rotate_left
  · rintro w' ⟨s0, s1, s2, s3, s4, s5, s6, s7, s8⟩
    go_simp
    with_reducible rfl
  rotate_left
  · simp only [Act.put, List.setIfInBounds_toArray, List.set_cons_zero, List.set_cons_succ, i64_w, i32_w]
    rfl
  refine pure_ (i := 6) (N := some 40) (v := ?_) (a' := ?_) #[true, true, true, true, true, true, true, false, false, false] rfl rfl (by kernel_rfl) (fun _ _ _ h => h) (Or.inl ⟨by rfl, ?_⟩) ?_ ?_
  rotate_left
  · intro w'
    go_simp
    with_reducible rfl
  rotate_left
  · simp only [Act.put, List.setIfInBounds_toArray, List.set_cons_zero, List.set_cons_succ, i64_w, i32_w]
    rfl
  refine take_ (i := 7) (N := some 41) (v := ?_) (a' := ?_) #[true, true, true, true, true, true, true, true, false, false] rfl rfl (by kernel_rfl) (fun _ _ _ h => h) (Or.inl ⟨by rfl, ?_⟩) hHeld ?_ ?_
  rotate_left
  · rintro w' ⟨s0, s1, s2, s3, s4, s5, s6, s7, s8⟩
    go_simp
    with_reducible rfl
  rotate_left
  · simp only [Act.put, List.setIfInBounds_toArray, List.set_cons_zero, List.set_cons_succ, i64_w, i32_w]
    rfl
  refine one_ (i := 8) (N := none) #[true, true, true, true, true, true, true, true, true, false] rfl rfl (by kernel_rfl) (by decide) (fun K hK => ?_)
  have hst_ : (Instr.storeAt 58 (.pointer (some ⟨w2.heap.size, 0, none⟩)) (.agg #[.int .i64 h.f0, .int .i64 h.f1, .string h.f2, .slice Ah h.f3.length ch])).run Try.prog u0 = .ok () ((((u0.setCell ⟨w2.heap.size, 0, none⟩ (.int .i64 h.f0)).setCell ⟨w2.heap.size, 1, none⟩ (.int .i64 h.f1)).setCell ⟨w2.heap.size, 2, none⟩ (.string h.f2)).setCell ⟨w2.heap.size, 3, none⟩ (.slice Ah h.f3.length ch)) := store4 B_P
  refine skip_ (by rfl) rfl (w1 := ((((u0.setCell ⟨w2.heap.size, 0, none⟩ (.int .i64 h.f0)).setCell ⟨w2.heap.size, 1, none⟩ (.int .i64 h.f1)).setCell ⟨w2.heap.size, 2, none⟩ (.string h.f2)).setCell ⟨w2.heap.size, 3, none⟩ (.slice Ah h.f3.length ch))) (ins_st hst_) ?_
  clear hst_
  obtain ⟨s1_, s2_, s3_⟩ := set4 (.int .i64 h.f0) (.int .i64 h.f1) (.string h.f2) (.slice Ah h.f3.length ch) B_P
  replace HB := s3_ _ _ HB (by have := HG.out; have := HS2.out; omega)
  replace B_1 := (s2_ _ (by have := HG.out; have := HS2.out; omega)).trans B_1
  replace B_B := (s2_ _ (by have := HG.out; have := HS2.out; omega)).trans B_B
  replace B_2 := (s2_ _ (by have := HG.out; have := HS2.out; omega)).trans B_2
  replace B_3 := (s2_ _ (by have := HG.out; have := HS2.out; omega)).trans B_3
  replace B_5 := (s2_ _ (by have := HG.out; have := HS2.out; omega)).trans B_5
  replace B_P := s1_
  clear s1_ s2_ s3_
  generalize ((((u0.setCell ⟨w2.heap.size, 0, none⟩ (.int .i64 h.f0)).setCell ⟨w2.heap.size, 1, none⟩ (.int .i64 h.f1)).setCell ⟨w2.heap.size, 2, none⟩ (.string h.f2)).setCell ⟨w2.heap.size, 3, none⟩ (.slice Ah h.f3.length ch)) = u1 at *
  refine hK.out _ _ ⟨(blk_cell B_1 3).trans rfl, ck HB e0.out, ck HB e1.out, ck HB e2.out, ck HB e3.out, ck HB e4.out, ck HB e5.out, ck HB e6.out, ck HB e7.out⟩ (fun hHeld => ?_)
  clear hK K
  refine one_ (i := 9) (N := none) #[true, true, true, true, true, true, true, true, true, true] rfl rfl (by kernel_rfl) (by decide) (fun K hK => ?_)
  have hst_ : (Instr.storeAt 58 (.pointer (some ⟨w2.heap.size + 1, 0, none⟩)) (.agg #[.int .i64 b.f0, .int .i64 b.f1, .string b.f2, .slice Ab b.f3.length cb])).run Try.prog u1 = .ok () ((((u1.setCell ⟨w2.heap.size + 1, 0, none⟩ (.int .i64 b.f0)).setCell ⟨w2.heap.size + 1, 1, none⟩ (.int .i64 b.f1)).setCell ⟨w2.heap.size + 1, 2, none⟩ (.string b.f2)).setCell ⟨w2.heap.size + 1, 3, none⟩ (.slice Ab b.f3.length cb)) := store4 B_B
  refine skip_ (by rfl) rfl (w1 := ((((u1.setCell ⟨w2.heap.size + 1, 0, none⟩ (.int .i64 b.f0)).setCell ⟨w2.heap.size + 1, 1, none⟩ (.int .i64 b.f1)).setCell ⟨w2.heap.size + 1, 2, none⟩ (.string b.f2)).setCell ⟨w2.heap.size + 1, 3, none⟩ (.slice Ab b.f3.length cb))) (ins_st hst_) ?_
  clear hst_
  obtain ⟨s1_, s2_, s3_⟩ := set4 (.int .i64 b.f0) (.int .i64 b.f1) (.string b.f2) (.slice Ab b.f3.length cb) B_B
  replace HB := s3_ _ _ HB (by have := HG.out; have := HS2.out; omega)
  replace B_1 := (s2_ _ (by have := HG.out; have := HS2.out; omega)).trans B_1
  replace B_P := (s2_ _ (by have := HG.out; have := HS2.out; omega)).trans B_P
  replace B_2 := (s2_ _ (by have := HG.out; have := HS2.out; omega)).trans B_2
  replace B_3 := (s2_ _ (by have := HG.out; have := HS2.out; omega)).trans B_3
  replace B_5 := (s2_ _ (by have := HG.out; have := HS2.out; omega)).trans B_5
  replace B_B := s1_
  clear s1_ s2_ s3_
  generalize ((((u1.setCell ⟨w2.heap.size + 1, 0, none⟩ (.int .i64 b.f0)).setCell ⟨w2.heap.size + 1, 1, none⟩ (.int .i64 b.f1)).setCell ⟨w2.heap.size + 1, 2, none⟩ (.string b.f2)).setCell ⟨w2.heap.size + 1, 3, none⟩ (.slice Ab b.f3.length cb)) = u2 at *
  refine hK.out _ _ ⟨(blk_cell B_1 3).trans rfl, ck HB e0.out, ck HB e1.out, ck HB e2.out, ck HB e3.out, ck HB e4.out, ck HB e5.out, ck HB e6.out, ck HB e7.out⟩ (fun hHeld => ?_)
  clear hK K
  refine done_ (by kernel_rfl) ?_
  clear hHeld
  generalize u2 = y1 at *
  have HB0 := Aside0.mk HB
  have HK2 := Aside0.mk B_2
  have HK3 := Aside0.mk B_3
  have HK5 := Aside0.mk B_5
  have KP := Aside0.mk B_P
  have KB := Aside0.mk B_B
  have FH := Aside0.mk (Kd.F_below Fh.out HB)
  have FB := Aside0.mk (Kd.F_below Fb.out HB)
  have SZ42 := Aside0.mk (show w2.heap.size + 2 ≤ y1.heap.size by have := blk_lt B_B; omega)
  have SZ4 := Aside0.mk (show w2.heap.size ≤ y1.heap.size by have := blk_lt B_B; omega)
  clear HB B_2 B_3 B_5 B_P B_B B_1 e0 e1 e2 e3 e4 e5 e6 e7 Fh Fb
  have d70 : y1.cell? ⟨w2.heap.size, 0, none⟩ = some (.int .i64 h.f0) := (blk_cell KP.out 0).trans rfl
  have d71 : y1.cell? ⟨w2.heap.size, 1, none⟩ = some (.int .i64 h.f1) := (blk_cell KP.out 1).trans rfl
  have d72 : y1.cell? ⟨w2.heap.size, 2, none⟩ = some (.string h.f2) := (blk_cell KP.out 2).trans rfl
  have d73 : y1.cell? ⟨w2.heap.size, 3, none⟩ = some (.slice Ah h.f3.length ch) := (blk_cell KP.out 3).trans rfl
  have d80 : y1.cell? ⟨w2.heap.size + 1, 0, none⟩ = some (.int .i64 b.f0) := (blk_cell KB.out 0).trans rfl
  have d81 : y1.cell? ⟨w2.heap.size + 1, 1, none⟩ = some (.int .i64 b.f1) := (blk_cell KB.out 1).trans rfl
  have d82 : y1.cell? ⟨w2.heap.size + 1, 2, none⟩ = some (.string b.f2) := (blk_cell KB.out 2).trans rfl
  have d83 : y1.cell? ⟨w2.heap.size + 1, 3, none⟩ = some (.slice Ab b.f3.length cb) := (blk_cell KB.out 3).trans rfl
  rcases case5 h.f0 (bodyR b).1 with hp | hp | ⟨hp, hE⟩ | ⟨hp, hE⟩ | ⟨hp, hE⟩
  · skip
    replace HV := Aside0.mk (show clauseR ⟨k, m, s, [h, b]⟩ = ⟨z58, z58, 12, z58⟩ by rw [HV.out]; unfold clauseHBR; rw [if_pos hp])
    have q1 : (h.f0 == 1) = true := by simpa using hp
    clear hp
    go_wp2_with fail
    have B_H := HK2.out
    have B_R := HK3.out
    have B_W := HK5.out
    have HB := HB0.out
    generalize y1 = y0 at *
    refine start_ (n := 7) (S := fun w' => w'.cell? ⟨g2, 0, none⟩ = some (.int .i64 0) ∧ w'.cell? ⟨g2, 1, none⟩ = some (.int .i64 0) ∧ w'.cell? ⟨g2, 2, none⟩ = some (.string ⟨#[]⟩) ∧ w'.cell? ⟨g2, 3, none⟩ = some (.slice none 0 0) ∧ w'.cell? ⟨g3, 0, none⟩ = some (.int .i64 0) ∧ w'.cell? ⟨g3, 1, none⟩ = some (.int .i64 0) ∧ w'.cell? ⟨g3, 2, none⟩ = some (.string ⟨#[]⟩) ∧ w'.cell? ⟨g3, 3, none⟩ = some (.slice none 0 0) ∧ w'.cell? ⟨g5, 0, none⟩ = some (.int .i64 0) ∧ w'.cell? ⟨g5, 1, none⟩ = some (.int .i64 0) ∧ w'.cell? ⟨g5, 2, none⟩ = some (.string ⟨#[]⟩) ∧ w'.cell? ⟨g5, 3, none⟩ = some (.slice none 0 0)) (ds := []) #[false, false, false, false, false, false, false] (by kernel_rfl) rfl rfl ⟨(blk_cell (blk_drew B_H) 0).trans rfl, (blk_cell (blk_drew B_H) 1).trans rfl, (blk_cell (blk_drew B_H) 2).trans rfl, (blk_cell (blk_drew B_H) 3).trans rfl, (blk_cell (blk_drew B_R) 0).trans rfl, (blk_cell (blk_drew B_R) 1).trans rfl, (blk_cell (blk_drew B_R) 2).trans rfl, (blk_cell (blk_drew B_R) 3).trans rfl, (blk_cell (blk_drew B_W) 0).trans rfl, (blk_cell (blk_drew B_W) 1).trans rfl, (blk_cell (blk_drew B_W) 2).trans rfl, (blk_cell (blk_drew B_W) 3).trans rfl⟩ (fun hHeld => ?_)
    replace B_H := blk_drew B_H
    replace B_R := blk_drew B_R
    replace B_W := blk_drew B_W
    replace HB := HB.drew
    generalize y0.drew = v0 at *
    have HS : ∀ q, q ≠ g2 → q ≠ g3 → q ≠ g5 → v0.heap[q]? = v0.heap[q]? := fun _ _ _ _ => rfl
    refine take_ (i := 0) (N := some 46) (v := ?_) (a' := ?_) #[true, false, false, false, false, false, false] rfl rfl (by kernel_rfl) (fun _ _ _ h => h) (Or.inl ⟨by rfl, ?_⟩) hHeld ?_ ?_
    rotate_left
    · rintro w' ⟨s0, s1, s2, s3, s4, s5, s6, s7, s8, s9, s10, s11⟩
      go_simp
      with_reducible rfl
    rotate_left
    · simp only [Act.put, List.setIfInBounds_toArray, List.set_cons_zero, List.set_cons_succ, i64_w, i32_w]
      rfl
    refine take_ (i := 1) (N := some 47) (v := ?_) (a' := ?_) #[true, true, false, false, false, false, false] rfl rfl (by kernel_rfl) (fun _ _ _ h => h) (Or.inl ⟨by rfl, ?_⟩) hHeld ?_ ?_
    rotate_left
    · rintro w' ⟨s0, s1, s2, s3, s4, s5, s6, s7, s8, s9, s10, s11⟩
      go_simp
      with_reducible rfl
    rotate_left
    · simp only [Act.put, List.setIfInBounds_toArray, List.set_cons_zero, List.set_cons_succ, i64_w, i32_w]
      rfl
    refine take_ (i := 2) (N := some 48) (v := ?_) (a' := ?_) #[true, true, true, false, false, false, false] rfl rfl (by kernel_rfl) (fun _ _ _ h => h) (Or.inl ⟨by rfl, ?_⟩) hHeld ?_ ?_
    rotate_left
    · rintro w' ⟨s0, s1, s2, s3, s4, s5, s6, s7, s8, s9, s10, s11⟩
      go_simp
      with_reducible rfl
    rotate_left
    · simp only [Act.put, List.setIfInBounds_toArray, List.set_cons_zero, List.set_cons_succ, i64_w, i32_w]
      rfl
    refine one_ (i := 3) (N := none) #[true, true, true, true, false, false, false] rfl rfl (by kernel_rfl) (by decide) (fun K hK => ?_)
    have hst_ : (Instr.storeAt 58 (.pointer (some ⟨g2, 0, none⟩)) (.agg #[.int .i64 0, .int .i64 0, .string ⟨#[]⟩, .slice none 0 0])).run Try.prog v0 = .ok () ((((v0.setCell ⟨g2, 0, none⟩ (.int .i64 0)).setCell ⟨g2, 1, none⟩ (.int .i64 0)).setCell ⟨g2, 2, none⟩ (.string ⟨#[]⟩)).setCell ⟨g2, 3, none⟩ (.slice none 0 0)) := store4 B_H
    refine skip_ (by rfl) rfl (w1 := ((((v0.setCell ⟨g2, 0, none⟩ (.int .i64 0)).setCell ⟨g2, 1, none⟩ (.int .i64 0)).setCell ⟨g2, 2, none⟩ (.string ⟨#[]⟩)).setCell ⟨g2, 3, none⟩ (.slice none 0 0))) (ins_st hst_) ?_
    clear hst_
    obtain ⟨s1_, s2_, s3_⟩ := set4 (.int .i64 0) (.int .i64 0) (.string ⟨#[]⟩) (.slice none 0 0) B_H
    replace HB := s3_ _ _ HB (by have := HG.out; have := HS2.out; omega)
    replace B_R := (s2_ _ (by have := HG.out; have := HS2.out; omega)).trans B_R
    replace B_W := (s2_ _ (by have := HG.out; have := HS2.out; omega)).trans B_W
    replace B_H := s1_
    replace HS : ∀ q, q ≠ g2 → q ≠ g3 → q ≠ g5 → _ = v0.heap[q]? := fun q h2_ h3_ h5_ => (s2_ q (by assumption)).trans (HS q h2_ h3_ h5_)
    clear s1_ s2_ s3_
    generalize ((((v0.setCell ⟨g2, 0, none⟩ (.int .i64 0)).setCell ⟨g2, 1, none⟩ (.int .i64 0)).setCell ⟨g2, 2, none⟩ (.string ⟨#[]⟩)).setCell ⟨g2, 3, none⟩ (.slice none 0 0)) = v1 at *
    refine hK.out _ _ ⟨(blk_cell B_H 0).trans rfl, (blk_cell B_H 1).trans rfl, (blk_cell B_H 2).trans rfl, (blk_cell B_H 3).trans rfl, (blk_cell B_R 0).trans rfl, (blk_cell B_R 1).trans rfl, (blk_cell B_R 2).trans rfl, (blk_cell B_R 3).trans rfl, (blk_cell B_W 0).trans rfl, (blk_cell B_W 1).trans rfl, (blk_cell B_W 2).trans rfl, (blk_cell B_W 3).trans rfl⟩ (fun hHeld => ?_)
    clear hK K
    refine one_ (i := 4) (N := none) #[true, true, true, true, true, false, false] rfl rfl (by kernel_rfl) (by decide) (fun K hK => ?_)
    have hst_ : (Instr.storeAt 58 (.pointer (some ⟨g3, 0, none⟩)) (.agg #[.int .i64 0, .int .i64 0, .string ⟨#[]⟩, .slice none 0 0])).run Try.prog v1 = .ok () ((((v1.setCell ⟨g3, 0, none⟩ (.int .i64 0)).setCell ⟨g3, 1, none⟩ (.int .i64 0)).setCell ⟨g3, 2, none⟩ (.string ⟨#[]⟩)).setCell ⟨g3, 3, none⟩ (.slice none 0 0)) := store4 B_R
    refine skip_ (by rfl) rfl (w1 := ((((v1.setCell ⟨g3, 0, none⟩ (.int .i64 0)).setCell ⟨g3, 1, none⟩ (.int .i64 0)).setCell ⟨g3, 2, none⟩ (.string ⟨#[]⟩)).setCell ⟨g3, 3, none⟩ (.slice none 0 0))) (ins_st hst_) ?_
    clear hst_
    obtain ⟨s1_, s2_, s3_⟩ := set4 (.int .i64 0) (.int .i64 0) (.string ⟨#[]⟩) (.slice none 0 0) B_R
    replace HB := s3_ _ _ HB (by have := HG.out; have := HS2.out; omega)
    replace B_H := (s2_ _ (by have := HG.out; have := HS2.out; omega)).trans B_H
    replace B_W := (s2_ _ (by have := HG.out; have := HS2.out; omega)).trans B_W
    replace B_R := s1_
    replace HS : ∀ q, q ≠ g2 → q ≠ g3 → q ≠ g5 → _ = v0.heap[q]? := fun q h2_ h3_ h5_ => (s2_ q (by assumption)).trans (HS q h2_ h3_ h5_)
    clear s1_ s2_ s3_
    generalize ((((v1.setCell ⟨g3, 0, none⟩ (.int .i64 0)).setCell ⟨g3, 1, none⟩ (.int .i64 0)).setCell ⟨g3, 2, none⟩ (.string ⟨#[]⟩)).setCell ⟨g3, 3, none⟩ (.slice none 0 0)) = v2 at *
    refine hK.out _ _ ⟨(blk_cell B_H 0).trans rfl, (blk_cell B_H 1).trans rfl, (blk_cell B_H 2).trans rfl, (blk_cell B_H 3).trans rfl, (blk_cell B_R 0).trans rfl, (blk_cell B_R 1).trans rfl, (blk_cell B_R 2).trans rfl, (blk_cell B_R 3).trans rfl, (blk_cell B_W 0).trans rfl, (blk_cell B_W 1).trans rfl, (blk_cell B_W 2).trans rfl, (blk_cell B_W 3).trans rfl⟩ (fun hHeld => ?_)
    clear hK K
    refine pure_ (i := 5) (N := some 4) (v := ?_) (a' := ?_) #[true, true, true, true, true, true, false] rfl rfl (by kernel_rfl) (fun _ _ _ h => h) (Or.inl ⟨by rfl, ?_⟩) ?_ ?_
    rotate_left
    · intro w'
      go_simp
      with_reducible rfl
    rotate_left
    · simp only [Act.put, List.setIfInBounds_toArray, List.set_cons_zero, List.set_cons_succ, i64_w, i32_w]
      rfl
    refine one_ (i := 6) (N := none) #[true, true, true, true, true, true, true] rfl rfl (by kernel_rfl) (by decide) (fun K hK => ?_)
    have hst_ : (Instr.storeAt 58 (.pointer (some ⟨g5, 0, none⟩)) (.agg #[.int .i64 0, .int .i64 0, .string ⟨#[]⟩, .slice none 0 0])).run Try.prog v2 = .ok () ((((v2.setCell ⟨g5, 0, none⟩ (.int .i64 0)).setCell ⟨g5, 1, none⟩ (.int .i64 0)).setCell ⟨g5, 2, none⟩ (.string ⟨#[]⟩)).setCell ⟨g5, 3, none⟩ (.slice none 0 0)) := store4 B_W
    refine skip_ (by rfl) rfl (w1 := ((((v2.setCell ⟨g5, 0, none⟩ (.int .i64 0)).setCell ⟨g5, 1, none⟩ (.int .i64 0)).setCell ⟨g5, 2, none⟩ (.string ⟨#[]⟩)).setCell ⟨g5, 3, none⟩ (.slice none 0 0))) (ins_st hst_) ?_
    clear hst_
    obtain ⟨s1_, s2_, s3_⟩ := set4 (.int .i64 0) (.int .i64 0) (.string ⟨#[]⟩) (.slice none 0 0) B_W
    replace HB := s3_ _ _ HB (by have := HG.out; have := HS2.out; omega)
    replace B_H := (s2_ _ (by have := HG.out; have := HS2.out; omega)).trans B_H
    replace B_R := (s2_ _ (by have := HG.out; have := HS2.out; omega)).trans B_R
    replace B_W := s1_
    replace HS : ∀ q, q ≠ g2 → q ≠ g3 → q ≠ g5 → _ = v0.heap[q]? := fun q h2_ h3_ h5_ => (s2_ q (by assumption)).trans (HS q h2_ h3_ h5_)
    clear s1_ s2_ s3_
    generalize ((((v2.setCell ⟨g5, 0, none⟩ (.int .i64 0)).setCell ⟨g5, 1, none⟩ (.int .i64 0)).setCell ⟨g5, 2, none⟩ (.string ⟨#[]⟩)).setCell ⟨g5, 3, none⟩ (.slice none 0 0)) = v3 at *
    refine hK.out _ _ ⟨(blk_cell B_H 0).trans rfl, (blk_cell B_H 1).trans rfl, (blk_cell B_H 2).trans rfl, (blk_cell B_H 3).trans rfl, (blk_cell B_R 0).trans rfl, (blk_cell B_R 1).trans rfl, (blk_cell B_R 2).trans rfl, (blk_cell B_R 3).trans rfl, (blk_cell B_W 0).trans rfl, (blk_cell B_W 1).trans rfl, (blk_cell B_W 2).trans rfl, (blk_cell B_W 3).trans rfl⟩ (fun hHeld => ?_)
    clear hK K
    refine done_ (by kernel_rfl) ?_
    go_wp2_with fail
    refine bodyPost_ret (res32 (by rfl) (by rfl) (by rfl) (by rfl) B_H B_R B_W) rfl ?_
    exact ⟨_, _, _, by rw [HV.out], by rw [HV.out]; exact TM_z _ _, by rw [HV.out]; exact TM_z _ _, by rw [HV.out]; exact TM_z _ _, HB⟩
  · skip
    replace HV := Aside0.mk (show clauseR ⟨k, m, s, [h, b]⟩ = ⟨z58, z58, 13, h⟩ by rw [HV.out]; unfold clauseHBR; rw [if_neg (by omega), if_pos hp])
    have q1 : (h.f0 == 1) = false := by simpa using (by omega : ¬ h.f0 = 1)
    have q2 : (h.f0 == 2) = true := by simpa using hp
    clear hp
    go_wp2_with fail
    have B_H := HK2.out
    have B_R := HK3.out
    have B_W := HK5.out
    have HB := HB0.out
    have B_P := KP.out
    have F_h := FH.out
    generalize y1 = y0 at *
    refine start_ (n := 7) (S := fun w' => w'.cell? ⟨g2, 0, none⟩ = some (.int .i64 0) ∧ w'.cell? ⟨g2, 1, none⟩ = some (.int .i64 0) ∧ w'.cell? ⟨g2, 2, none⟩ = some (.string ⟨#[]⟩) ∧ w'.cell? ⟨g2, 3, none⟩ = some (.slice none 0 0) ∧ w'.cell? ⟨g3, 0, none⟩ = some (.int .i64 0) ∧ w'.cell? ⟨g3, 1, none⟩ = some (.int .i64 0) ∧ w'.cell? ⟨g3, 2, none⟩ = some (.string ⟨#[]⟩) ∧ w'.cell? ⟨g3, 3, none⟩ = some (.slice none 0 0) ∧ w'.cell? ⟨w2.heap.size, 0, none⟩ = some (.int .i64 h.f0) ∧ w'.cell? ⟨w2.heap.size, 1, none⟩ = some (.int .i64 h.f1) ∧ w'.cell? ⟨w2.heap.size, 2, none⟩ = some (.string h.f2) ∧ w'.cell? ⟨w2.heap.size, 3, none⟩ = some (.slice Ah h.f3.length ch)) (ds := []) #[false, false, false, false, false, false, false] (by kernel_rfl) rfl rfl ⟨(blk_cell (blk_drew B_H) 0).trans rfl, (blk_cell (blk_drew B_H) 1).trans rfl, (blk_cell (blk_drew B_H) 2).trans rfl, (blk_cell (blk_drew B_H) 3).trans rfl, (blk_cell (blk_drew B_R) 0).trans rfl, (blk_cell (blk_drew B_R) 1).trans rfl, (blk_cell (blk_drew B_R) 2).trans rfl, (blk_cell (blk_drew B_R) 3).trans rfl, (blk_cell (blk_drew B_P) 0).trans rfl, (blk_cell (blk_drew B_P) 1).trans rfl, (blk_cell (blk_drew B_P) 2).trans rfl, (blk_cell (blk_drew B_P) 3).trans rfl⟩ (fun hHeld => ?_)
    replace B_H := blk_drew B_H
    replace B_R := blk_drew B_R
    replace B_W := blk_drew B_W
    replace B_P := blk_drew B_P
    replace HB := HB.drew
    replace F_h := Kd.F_drew F_h
    generalize y0.drew = v0 at *
    have HS : ∀ q, q ≠ g2 → q ≠ g3 → q ≠ g5 → v0.heap[q]? = v0.heap[q]? := fun _ _ _ _ => rfl
    refine take_ (i := 0) (N := some 51) (v := ?_) (a' := ?_) #[true, false, false, false, false, false, false] rfl rfl (by kernel_rfl) (fun _ _ _ h => h) (Or.inl ⟨by rfl, ?_⟩) hHeld ?_ ?_
    rotate_left
    · rintro w' ⟨s0, s1, s2, s3, s4, s5, s6, s7, s8, s9, s10, s11⟩
      go_simp
      with_reducible rfl
    rotate_left
    · simp only [Act.put, List.setIfInBounds_toArray, List.set_cons_zero, List.set_cons_succ, i64_w, i32_w]
      rfl
    refine take_ (i := 1) (N := some 52) (v := ?_) (a' := ?_) #[true, true, false, false, false, false, false] rfl rfl (by kernel_rfl) (fun _ _ _ h => h) (Or.inl ⟨by rfl, ?_⟩) hHeld ?_ ?_
    rotate_left
    · rintro w' ⟨s0, s1, s2, s3, s4, s5, s6, s7, s8, s9, s10, s11⟩
      go_simp
      with_reducible rfl
    rotate_left
    · simp only [Act.put, List.setIfInBounds_toArray, List.set_cons_zero, List.set_cons_succ, i64_w, i32_w]
      rfl
    refine take_ (i := 2) (N := some 53) (v := ?_) (a' := ?_) #[true, true, true, false, false, false, false] rfl rfl (by kernel_rfl) (fun _ _ _ h => h) (Or.inl ⟨by rfl, ?_⟩) hHeld ?_ ?_
    rotate_left
    · rintro w' ⟨s0, s1, s2, s3, s4, s5, s6, s7, s8, s9, s10, s11⟩
      go_simp
      with_reducible rfl
    rotate_left
    · simp only [Act.put, List.setIfInBounds_toArray, List.set_cons_zero, List.set_cons_succ, i64_w, i32_w]
      rfl
    refine one_ (i := 3) (N := none) #[true, true, true, true, false, false, false] rfl rfl (by kernel_rfl) (by decide) (fun K hK => ?_)
    have hst_ : (Instr.storeAt 58 (.pointer (some ⟨g2, 0, none⟩)) (.agg #[.int .i64 0, .int .i64 0, .string ⟨#[]⟩, .slice none 0 0])).run Try.prog v0 = .ok () ((((v0.setCell ⟨g2, 0, none⟩ (.int .i64 0)).setCell ⟨g2, 1, none⟩ (.int .i64 0)).setCell ⟨g2, 2, none⟩ (.string ⟨#[]⟩)).setCell ⟨g2, 3, none⟩ (.slice none 0 0)) := store4 B_H
    refine skip_ (by rfl) rfl (w1 := ((((v0.setCell ⟨g2, 0, none⟩ (.int .i64 0)).setCell ⟨g2, 1, none⟩ (.int .i64 0)).setCell ⟨g2, 2, none⟩ (.string ⟨#[]⟩)).setCell ⟨g2, 3, none⟩ (.slice none 0 0))) (ins_st hst_) ?_
    clear hst_
    obtain ⟨s1_, s2_, s3_⟩ := set4 (.int .i64 0) (.int .i64 0) (.string ⟨#[]⟩) (.slice none 0 0) B_H
    replace HB := s3_ _ _ HB (by have := HG.out; have := HS2.out; omega)
    replace B_R := (s2_ _ (by have := HG.out; have := HS2.out; omega)).trans B_R
    replace B_W := (s2_ _ (by have := HG.out; have := HS2.out; omega)).trans B_W
    replace B_P := (s2_ _ (by have := HG.out; have := HS2.out; omega)).trans B_P
    replace B_H := s1_
    replace HS : ∀ q, q ≠ g2 → q ≠ g3 → q ≠ g5 → _ = v0.heap[q]? := fun q h2_ h3_ h5_ => (s2_ q (by assumption)).trans (HS q h2_ h3_ h5_)
    clear s1_ s2_ s3_
    generalize ((((v0.setCell ⟨g2, 0, none⟩ (.int .i64 0)).setCell ⟨g2, 1, none⟩ (.int .i64 0)).setCell ⟨g2, 2, none⟩ (.string ⟨#[]⟩)).setCell ⟨g2, 3, none⟩ (.slice none 0 0)) = v1 at *
    refine hK.out _ _ ⟨(blk_cell B_H 0).trans rfl, (blk_cell B_H 1).trans rfl, (blk_cell B_H 2).trans rfl, (blk_cell B_H 3).trans rfl, (blk_cell B_R 0).trans rfl, (blk_cell B_R 1).trans rfl, (blk_cell B_R 2).trans rfl, (blk_cell B_R 3).trans rfl, (blk_cell B_P 0).trans rfl, (blk_cell B_P 1).trans rfl, (blk_cell B_P 2).trans rfl, (blk_cell B_P 3).trans rfl⟩ (fun hHeld => ?_)
    clear hK K
    refine one_ (i := 4) (N := none) #[true, true, true, true, true, false, false] rfl rfl (by kernel_rfl) (by decide) (fun K hK => ?_)
    have hst_ : (Instr.storeAt 58 (.pointer (some ⟨g3, 0, none⟩)) (.agg #[.int .i64 0, .int .i64 0, .string ⟨#[]⟩, .slice none 0 0])).run Try.prog v1 = .ok () ((((v1.setCell ⟨g3, 0, none⟩ (.int .i64 0)).setCell ⟨g3, 1, none⟩ (.int .i64 0)).setCell ⟨g3, 2, none⟩ (.string ⟨#[]⟩)).setCell ⟨g3, 3, none⟩ (.slice none 0 0)) := store4 B_R
    refine skip_ (by rfl) rfl (w1 := ((((v1.setCell ⟨g3, 0, none⟩ (.int .i64 0)).setCell ⟨g3, 1, none⟩ (.int .i64 0)).setCell ⟨g3, 2, none⟩ (.string ⟨#[]⟩)).setCell ⟨g3, 3, none⟩ (.slice none 0 0))) (ins_st hst_) ?_
    clear hst_
    obtain ⟨s1_, s2_, s3_⟩ := set4 (.int .i64 0) (.int .i64 0) (.string ⟨#[]⟩) (.slice none 0 0) B_R
    replace HB := s3_ _ _ HB (by have := HG.out; have := HS2.out; omega)
    replace B_H := (s2_ _ (by have := HG.out; have := HS2.out; omega)).trans B_H
    replace B_W := (s2_ _ (by have := HG.out; have := HS2.out; omega)).trans B_W
    replace B_P := (s2_ _ (by have := HG.out; have := HS2.out; omega)).trans B_P
    replace B_R := s1_
    replace HS : ∀ q, q ≠ g2 → q ≠ g3 → q ≠ g5 → _ = v0.heap[q]? := fun q h2_ h3_ h5_ => (s2_ q (by assumption)).trans (HS q h2_ h3_ h5_)
    clear s1_ s2_ s3_
    generalize ((((v1.setCell ⟨g3, 0, none⟩ (.int .i64 0)).setCell ⟨g3, 1, none⟩ (.int .i64 0)).setCell ⟨g3, 2, none⟩ (.string ⟨#[]⟩)).setCell ⟨g3, 3, none⟩ (.slice none 0 0)) = v2 at *
    refine hK.out _ _ ⟨(blk_cell B_H 0).trans rfl, (blk_cell B_H 1).trans rfl, (blk_cell B_H 2).trans rfl, (blk_cell B_H 3).trans rfl, (blk_cell B_R 0).trans rfl, (blk_cell B_R 1).trans rfl, (blk_cell B_R 2).trans rfl, (blk_cell B_R 3).trans rfl, (blk_cell B_P 0).trans rfl, (blk_cell B_P 1).trans rfl, (blk_cell B_P 2).trans rfl, (blk_cell B_P 3).trans rfl⟩ (fun hHeld => ?_)
    clear hK K
    refine pure_ (i := 5) (N := some 4) (v := ?_) (a' := ?_) #[true, true, true, true, true, true, false] rfl rfl (by kernel_rfl) (fun _ _ _ h => h) (Or.inl ⟨by rfl, ?_⟩) ?_ ?_
    rotate_left
    · intro w'
      go_simp
      with_reducible rfl
    rotate_left
    · simp only [Act.put, List.setIfInBounds_toArray, List.set_cons_zero, List.set_cons_succ, i64_w, i32_w]
      rfl
    refine one_ (i := 6) (N := none) #[true, true, true, true, true, true, true] rfl rfl (by kernel_rfl) (by decide) (fun K hK => ?_)
    have hst_ : (Instr.storeAt 58 (.pointer (some ⟨g5, 0, none⟩)) (.agg #[.int .i64 h.f0, .int .i64 h.f1, .string h.f2, .slice Ah h.f3.length ch])).run Try.prog v2 = .ok () ((((v2.setCell ⟨g5, 0, none⟩ (.int .i64 h.f0)).setCell ⟨g5, 1, none⟩ (.int .i64 h.f1)).setCell ⟨g5, 2, none⟩ (.string h.f2)).setCell ⟨g5, 3, none⟩ (.slice Ah h.f3.length ch)) := store4 B_W
    refine skip_ (by rfl) rfl (w1 := ((((v2.setCell ⟨g5, 0, none⟩ (.int .i64 h.f0)).setCell ⟨g5, 1, none⟩ (.int .i64 h.f1)).setCell ⟨g5, 2, none⟩ (.string h.f2)).setCell ⟨g5, 3, none⟩ (.slice Ah h.f3.length ch))) (ins_st hst_) ?_
    clear hst_
    obtain ⟨s1_, s2_, s3_⟩ := set4 (.int .i64 h.f0) (.int .i64 h.f1) (.string h.f2) (.slice Ah h.f3.length ch) B_W
    replace HB := s3_ _ _ HB (by have := HG.out; have := HS2.out; omega)
    replace B_H := (s2_ _ (by have := HG.out; have := HS2.out; omega)).trans B_H
    replace B_R := (s2_ _ (by have := HG.out; have := HS2.out; omega)).trans B_R
    replace B_P := (s2_ _ (by have := HG.out; have := HS2.out; omega)).trans B_P
    replace B_W := s1_
    replace HS : ∀ q, q ≠ g2 → q ≠ g3 → q ≠ g5 → _ = v0.heap[q]? := fun q h2_ h3_ h5_ => (s2_ q (by assumption)).trans (HS q h2_ h3_ h5_)
    clear s1_ s2_ s3_
    generalize ((((v2.setCell ⟨g5, 0, none⟩ (.int .i64 h.f0)).setCell ⟨g5, 1, none⟩ (.int .i64 h.f1)).setCell ⟨g5, 2, none⟩ (.string h.f2)).setCell ⟨g5, 3, none⟩ (.slice Ah h.f3.length ch)) = v3 at *
    refine hK.out _ _ ⟨(blk_cell B_H 0).trans rfl, (blk_cell B_H 1).trans rfl, (blk_cell B_H 2).trans rfl, (blk_cell B_H 3).trans rfl, (blk_cell B_R 0).trans rfl, (blk_cell B_R 1).trans rfl, (blk_cell B_R 2).trans rfl, (blk_cell B_R 3).trans rfl, (blk_cell B_P 0).trans rfl, (blk_cell B_P 1).trans rfl, (blk_cell B_P 2).trans rfl, (blk_cell B_P 3).trans rfl⟩ (fun hHeld => ?_)
    clear hK K
    refine done_ (by kernel_rfl) ?_
    go_wp2_with fail
    refine bodyPost_ret (res32 (by rfl) (by rfl) (by rfl) (by rfl) B_H B_R B_W) rfl ?_
    exact ⟨_, _, _, by rw [HV.out], by rw [HV.out]; exact TM_z _ _, by rw [HV.out]; exact TM_z _ _, by rw [HV.out]; exact ⟨Ah, ch, rfl, CH.out, (Kd.F_mono (Kd.F_step F_h (fun q hq _ => HS q (by have := Hok.out q hq; have := HG.out; omega) (by have := Hok.out q hq; have := HG.out; omega) (by have := Hok.out q hq; have := HG.out; omega))) (fun q hq => Or.inl hq))⟩, HB⟩
  · skip
    obtain ⟨er, r, hR⟩ : ∃ er r, bodyR b = (er, r) := ⟨_, _, rfl⟩
    have hbody : Aside0 (∀ W : World, (∀ q, ok q → q < W.heap.size) → Kd.F k58 W ok Ab b.f3.length b.f3 → Calls Try.prog 42 #[.agg #[.int .i64 b.f0, .int .i64 b.f1, .string b.f2, .slice Ab b.f3.length cb]] W (fun e w' => ∃ A' c', e = .returned (.tuple #[.agg #[.int .i64 r.f0, .int .i64 r.f1, .string r.f2, .slice A' r.f3.length c'], .int .i64 er]) ∧ r.f3.length ≤ c' ∧ Kd.F k58 w' (fun k => ok k ∨ W.heap.size ≤ k) A' r.f3.length r.f3 ∧ Below W.heap.size W w')) := ⟨fun W h1 h2 => by
      have := Body_calls b SB.out Ab cb W ok h1 h2 CB.out
      unfold BodyP at this
      rw [hR] at this
      exact this⟩
    rw [hR] at hE
    dsimp only at hE
    obtain rfl : er = 0 := hE
    replace HV := Aside0.mk (show clauseR ⟨k, m, s, [h, b]⟩ = ⟨h, r, 0, z58⟩ by rw [HV.out]; unfold clauseHBR; rw [if_neg hp.1, if_neg hp.2, hR]; rfl)
    have q1 : (h.f0 == 1) = false := by simpa using hp.1
    have q2 : (h.f0 == 2) = false := by simpa using hp.2
    clear hp hR
    go_wp2_with (first
      | (go_at_call 42
         refine (hbody.out _ (fun q hq => Nat.lt_of_lt_of_le (Hok.out q hq) HB0.out.size) FB.out).mono ?_
         rintro e w5 ⟨Ar, cr, rfl, hcr, hFr, hbl⟩
         have CR_ := Aside0.mk hcr
         have HS4 := Aside0.mk (show w2.heap.size ≤ (y1).heap.size from SZ4.out)
         have HS5 := Aside0.mk (show w2.heap.size + 2 ≤ w5.heap.size from Nat.le_trans SZ42.out hbl.size)
         replace HB0 := Aside0.mk (show Below w.heap.size w (w5.alloc (.cells #[.int .i64 r.f0, .int .i64 r.f1, .string r.f2, .slice Ar r.f3.length cr] 58)) from below_alloc (below_step HB0.out hbl) _)
         replace HK2 := Aside0.mk (show (w5.alloc (.cells #[.int .i64 r.f0, .int .i64 r.f1, .string r.f2, .slice Ar r.f3.length cr] 58)).heap[_]? = _ from blk_alloc (blk_below HK2.out hbl) _)
         replace HK3 := Aside0.mk (show (w5.alloc (.cells #[.int .i64 r.f0, .int .i64 r.f1, .string r.f2, .slice Ar r.f3.length cr] 58)).heap[_]? = _ from blk_alloc (blk_below HK3.out hbl) _)
         replace HK5 := Aside0.mk (show (w5.alloc (.cells #[.int .i64 r.f0, .int .i64 r.f1, .string r.f2, .slice Ar r.f3.length cr] 58)).heap[_]? = _ from blk_alloc (blk_below HK5.out hbl) _)
         replace KP := Aside0.mk (show (w5.alloc (.cells #[.int .i64 r.f0, .int .i64 r.f1, .string r.f2, .slice Ar r.f3.length cr] 58)).heap[_]? = _ from blk_alloc (blk_below KP.out hbl) _)
         replace KB := Aside0.mk (show (w5.alloc (.cells #[.int .i64 r.f0, .int .i64 r.f1, .string r.f2, .slice Ar r.f3.length cr] 58)).heap[_]? = _ from blk_alloc (blk_below KB.out hbl) _)
         have KX := Aside0.mk (show (w5.alloc (.cells #[.int .i64 r.f0, .int .i64 r.f1, .string r.f2, .slice Ar r.f3.length cr] 58)).heap[w5.heap.size]? = some (.cells #[.int .i64 r.f0, .int .i64 r.f1, .string r.f2, .slice Ar r.f3.length cr] 58 (0, 0)) from heap_alloc_new _ _)
         replace FH := Aside0.mk (show Kd.F k58 (w5.alloc (.cells #[.int .i64 r.f0, .int .i64 r.f1, .string r.f2, .slice Ar r.f3.length cr] 58)) ok Ah h.f3.length h.f3 from Kd.F_alloc (Kd.F_below FH.out hbl) _)
         replace FB := Aside0.mk (show Kd.F k58 (w5.alloc (.cells #[.int .i64 r.f0, .int .i64 r.f1, .string r.f2, .slice Ar r.f3.length cr] 58)) ok Ab b.f3.length b.f3 from Kd.F_alloc (Kd.F_below FB.out hbl) _)
         have FR := Aside0.mk (show Kd.F k58 (w5.alloc (.cells #[.int .i64 r.f0, .int .i64 r.f1, .string r.f2, .slice Ar r.f3.length cr] 58)) (fun k => ok k ∨ (y1).heap.size ≤ k) Ar r.f3.length r.f3 from Kd.F_alloc hFr _)
         have HSY := Aside0.mk (show w.heap.size + 4 ≤ (w5.alloc (.cells #[.int .i64 r.f0, .int .i64 r.f1, .string r.f2, .slice Ar r.f3.length cr] 58)).heap.size by have := HS2.out; have := HS5.out; have h9 : (w5.alloc (.cells #[.int .i64 r.f0, .int .i64 r.f1, .string r.f2, .slice Ar r.f3.length cr] 58)).heap.size = w5.heap.size + 1 := al_sz _ _; omega)
         clear hFr hbl hcr))
    have B_H := HK2.out
    have B_R := HK3.out
    have B_W := HK5.out
    have HB := HB0.out
    have B_P := KP.out
    have F_h := FH.out
    have B_X := KX.out
    have F_r := FR.out
    have HSZ : w.heap.size ≤ ((w5.alloc (.cells #[.int .i64 r.f0, .int .i64 r.f1, .string r.f2, .slice Ar r.f3.length cr] 58))).heap.size := HB.size
    generalize (w5.alloc (.cells #[.int .i64 r.f0, .int .i64 r.f1, .string r.f2, .slice Ar r.f3.length cr] 58)) = y0 at *
    refine start_ (n := 8) (S := fun w' => w'.cell? ⟨w2.heap.size, 0, none⟩ = some (.int .i64 h.f0) ∧ w'.cell? ⟨w2.heap.size, 1, none⟩ = some (.int .i64 h.f1) ∧ w'.cell? ⟨w2.heap.size, 2, none⟩ = some (.string h.f2) ∧ w'.cell? ⟨w2.heap.size, 3, none⟩ = some (.slice Ah h.f3.length ch) ∧ w'.cell? ⟨w5.heap.size, 0, none⟩ = some (.int .i64 r.f0) ∧ w'.cell? ⟨w5.heap.size, 1, none⟩ = some (.int .i64 r.f1) ∧ w'.cell? ⟨w5.heap.size, 2, none⟩ = some (.string r.f2) ∧ w'.cell? ⟨w5.heap.size, 3, none⟩ = some (.slice Ar r.f3.length cr) ∧ w'.cell? ⟨g5, 0, none⟩ = some (.int .i64 0) ∧ w'.cell? ⟨g5, 1, none⟩ = some (.int .i64 0) ∧ w'.cell? ⟨g5, 2, none⟩ = some (.string ⟨#[]⟩) ∧ w'.cell? ⟨g5, 3, none⟩ = some (.slice none 0 0)) (ds := []) #[false, false, false, false, false, false, false, false] (by kernel_rfl) rfl rfl ⟨(blk_cell (blk_drew B_P) 0).trans rfl, (blk_cell (blk_drew B_P) 1).trans rfl, (blk_cell (blk_drew B_P) 2).trans rfl, (blk_cell (blk_drew B_P) 3).trans rfl, (blk_cell (blk_drew B_X) 0).trans rfl, (blk_cell (blk_drew B_X) 1).trans rfl, (blk_cell (blk_drew B_X) 2).trans rfl, (blk_cell (blk_drew B_X) 3).trans rfl, (blk_cell (blk_drew B_W) 0).trans rfl, (blk_cell (blk_drew B_W) 1).trans rfl, (blk_cell (blk_drew B_W) 2).trans rfl, (blk_cell (blk_drew B_W) 3).trans rfl⟩ (fun hHeld => ?_)
    replace B_H := blk_drew B_H
    replace B_R := blk_drew B_R
    replace B_W := blk_drew B_W
    replace B_P := blk_drew B_P
    replace B_X := blk_drew B_X
    replace HB := HB.drew
    replace F_h := Kd.F_drew F_h
    replace F_r := Kd.F_drew F_r
    have HSV0 : w.heap.size + 4 ≤ y0.drew.heap.size := by have := HSY.out; simpa using this
    generalize y0.drew = v0 at *
    have HS : ∀ q, q ≠ g2 → q ≠ g3 → q ≠ g5 → v0.heap[q]? = v0.heap[q]? := fun _ _ _ _ => rfl
    refine take_ (i := 0) (N := some 62) (v := ?_) (a' := ?_) #[true, false, false, false, false, false, false, false] rfl rfl (by kernel_rfl) (fun _ _ _ h => h) (Or.inl ⟨by rfl, ?_⟩) hHeld ?_ ?_
    rotate_left
    · rintro w' ⟨s0, s1, s2, s3, s4, s5, s6, s7, s8, s9, s10, s11⟩
      go_simp
      with_reducible rfl
    rotate_left
    · simp only [Act.put, List.setIfInBounds_toArray, List.set_cons_zero, List.set_cons_succ, i64_w, i32_w]
      rfl
    refine take_ (i := 2) (N := some 64) (v := ?_) (a' := ?_) #[true, false, true, false, false, false, false, false] rfl rfl (by kernel_rfl) (fun _ _ _ h => h) (Or.inl ⟨by rfl, ?_⟩) hHeld ?_ ?_
    rotate_left
    · rintro w' ⟨s0, s1, s2, s3, s4, s5, s6, s7, s8, s9, s10, s11⟩
      go_simp
      with_reducible rfl
    rotate_left
    · simp only [Act.put, List.setIfInBounds_toArray, List.set_cons_zero, List.set_cons_succ, i64_w, i32_w]
      rfl
    refine take_ (i := 3) (N := some 65) (v := ?_) (a' := ?_) #[true, false, true, true, false, false, false, false] rfl rfl (by kernel_rfl) (fun _ _ _ h => h) (Or.inl ⟨by rfl, ?_⟩) hHeld ?_ ?_
    rotate_left
    · rintro w' ⟨s0, s1, s2, s3, s4, s5, s6, s7, s8, s9, s10, s11⟩
      go_simp
      with_reducible rfl
    rotate_left
    · simp only [Act.put, List.setIfInBounds_toArray, List.set_cons_zero, List.set_cons_succ, i64_w, i32_w]
      rfl
    refine one_ (i := 1) (N := some 63) #[true, true, true, true, false, false, false, false] rfl rfl (by kernel_rfl) (by decide) (fun K hK => ?_)
    refine goes_ Try.func75 (by kernel_rfl) rfl #[.agg #[.int .i64 h.f0, .int .i64 h.f1, .string h.f2, .slice Ah h.f3.length ch]] (by rfl) rfl rfl (by (try simp only [List.map_toArray, List.map_cons, List.map_nil]); first | done | rfl) ?_
    refine (own_calls 400000 (by decide) h SH.out Ah ch _ (Kd.F_now F_h) CH.out).mono ?_
    rintro e vc ⟨Ao, co, rfl, hco, hFo, hbo⟩
    refine ⟨_, rfl, ?_⟩
    replace B_H := blk_below B_H hbo
    replace B_R := blk_below B_R hbo
    replace B_W := blk_below B_W hbo
    replace B_P := blk_below B_P hbo
    replace B_X := blk_below B_X hbo
    replace HB := below_step HB hbo
    replace F_h := Kd.F_below F_h hbo
    replace F_r := Kd.F_below F_r hbo
    have hszo := hbo.size
    have HSV : w.heap.size + 4 ≤ v0.heap.size := HSV0
    clear HS
    have HS : ∀ q, q ≠ g2 → q ≠ g3 → q ≠ g5 → vc.heap[q]? = vc.heap[q]? := fun _ _ _ _ => rfl
    refine hK.out _ _ ⟨(blk_cell B_P 0).trans rfl, (blk_cell B_P 1).trans rfl, (blk_cell B_P 2).trans rfl, (blk_cell B_P 3).trans rfl, (blk_cell B_X 0).trans rfl, (blk_cell B_X 1).trans rfl, (blk_cell B_X 2).trans rfl, (blk_cell B_X 3).trans rfl, (blk_cell B_W 0).trans rfl, (blk_cell B_W 1).trans rfl, (blk_cell B_W 2).trans rfl, (blk_cell B_W 3).trans rfl⟩ (fun hHeld => ?_)
    clear hK K
    refine norm_ (a' := ?_) ?_ ?_
    rotate_left
    · show Act.put _ (some 63) _ = _
      simp only [Act.put, List.setIfInBounds_toArray, List.set_cons_zero, List.set_cons_succ, i64_w, i32_w]
      rfl
    refine one_ (i := 4) (N := none) #[true, true, true, true, true, false, false, false] rfl rfl (by kernel_rfl) (by decide) (fun K hK => ?_)
    have hst_ : (Instr.storeAt 58 (.pointer (some ⟨g2, 0, none⟩)) (.agg #[.int .i64 h.f0, .int .i64 h.f1, .string h.f2, .slice Ao h.f3.length co])).run Try.prog vc = .ok () ((((vc.setCell ⟨g2, 0, none⟩ (.int .i64 h.f0)).setCell ⟨g2, 1, none⟩ (.int .i64 h.f1)).setCell ⟨g2, 2, none⟩ (.string h.f2)).setCell ⟨g2, 3, none⟩ (.slice Ao h.f3.length co)) := store4 B_H
    refine skip_ (by rfl) rfl (w1 := ((((vc.setCell ⟨g2, 0, none⟩ (.int .i64 h.f0)).setCell ⟨g2, 1, none⟩ (.int .i64 h.f1)).setCell ⟨g2, 2, none⟩ (.string h.f2)).setCell ⟨g2, 3, none⟩ (.slice Ao h.f3.length co))) (ins_st hst_) ?_
    clear hst_
    obtain ⟨s1_, s2_, s3_⟩ := set4 (.int .i64 h.f0) (.int .i64 h.f1) (.string h.f2) (.slice Ao h.f3.length co) B_H
    replace HB := s3_ _ _ HB (by have := HG.out; have := HS2.out; have := HS5.out; omega)
    replace B_R := (s2_ _ (by have := HG.out; have := HS2.out; have := HS5.out; omega)).trans B_R
    replace B_W := (s2_ _ (by have := HG.out; have := HS2.out; have := HS5.out; omega)).trans B_W
    replace B_P := (s2_ _ (by have := HG.out; have := HS2.out; have := HS5.out; omega)).trans B_P
    replace B_X := (s2_ _ (by have := HG.out; have := HS2.out; have := HS5.out; omega)).trans B_X
    replace B_H := s1_
    replace HS : ∀ q, q ≠ g2 → q ≠ g3 → q ≠ g5 → _ = vc.heap[q]? := fun q h2_ h3_ h5_ => (s2_ q (by assumption)).trans (HS q h2_ h3_ h5_)
    clear s1_ s2_ s3_
    generalize ((((vc.setCell ⟨g2, 0, none⟩ (.int .i64 h.f0)).setCell ⟨g2, 1, none⟩ (.int .i64 h.f1)).setCell ⟨g2, 2, none⟩ (.string h.f2)).setCell ⟨g2, 3, none⟩ (.slice Ao h.f3.length co)) = v1 at *
    refine hK.out _ _ ⟨(blk_cell B_P 0).trans rfl, (blk_cell B_P 1).trans rfl, (blk_cell B_P 2).trans rfl, (blk_cell B_P 3).trans rfl, (blk_cell B_X 0).trans rfl, (blk_cell B_X 1).trans rfl, (blk_cell B_X 2).trans rfl, (blk_cell B_X 3).trans rfl, (blk_cell B_W 0).trans rfl, (blk_cell B_W 1).trans rfl, (blk_cell B_W 2).trans rfl, (blk_cell B_W 3).trans rfl⟩ (fun hHeld => ?_)
    clear hK K
    refine one_ (i := 5) (N := none) #[true, true, true, true, true, true, false, false] rfl rfl (by kernel_rfl) (by decide) (fun K hK => ?_)
    have hst_ : (Instr.storeAt 58 (.pointer (some ⟨g3, 0, none⟩)) (.agg #[.int .i64 r.f0, .int .i64 r.f1, .string r.f2, .slice Ar r.f3.length cr])).run Try.prog v1 = .ok () ((((v1.setCell ⟨g3, 0, none⟩ (.int .i64 r.f0)).setCell ⟨g3, 1, none⟩ (.int .i64 r.f1)).setCell ⟨g3, 2, none⟩ (.string r.f2)).setCell ⟨g3, 3, none⟩ (.slice Ar r.f3.length cr)) := store4 B_R
    refine skip_ (by rfl) rfl (w1 := ((((v1.setCell ⟨g3, 0, none⟩ (.int .i64 r.f0)).setCell ⟨g3, 1, none⟩ (.int .i64 r.f1)).setCell ⟨g3, 2, none⟩ (.string r.f2)).setCell ⟨g3, 3, none⟩ (.slice Ar r.f3.length cr))) (ins_st hst_) ?_
    clear hst_
    obtain ⟨s1_, s2_, s3_⟩ := set4 (.int .i64 r.f0) (.int .i64 r.f1) (.string r.f2) (.slice Ar r.f3.length cr) B_R
    replace HB := s3_ _ _ HB (by have := HG.out; have := HS2.out; have := HS5.out; omega)
    replace B_H := (s2_ _ (by have := HG.out; have := HS2.out; have := HS5.out; omega)).trans B_H
    replace B_W := (s2_ _ (by have := HG.out; have := HS2.out; have := HS5.out; omega)).trans B_W
    replace B_P := (s2_ _ (by have := HG.out; have := HS2.out; have := HS5.out; omega)).trans B_P
    replace B_X := (s2_ _ (by have := HG.out; have := HS2.out; have := HS5.out; omega)).trans B_X
    replace B_R := s1_
    replace HS : ∀ q, q ≠ g2 → q ≠ g3 → q ≠ g5 → _ = vc.heap[q]? := fun q h2_ h3_ h5_ => (s2_ q (by assumption)).trans (HS q h2_ h3_ h5_)
    clear s1_ s2_ s3_
    generalize ((((v1.setCell ⟨g3, 0, none⟩ (.int .i64 r.f0)).setCell ⟨g3, 1, none⟩ (.int .i64 r.f1)).setCell ⟨g3, 2, none⟩ (.string r.f2)).setCell ⟨g3, 3, none⟩ (.slice Ar r.f3.length cr)) = v2 at *
    refine hK.out _ _ ⟨(blk_cell B_P 0).trans rfl, (blk_cell B_P 1).trans rfl, (blk_cell B_P 2).trans rfl, (blk_cell B_P 3).trans rfl, (blk_cell B_X 0).trans rfl, (blk_cell B_X 1).trans rfl, (blk_cell B_X 2).trans rfl, (blk_cell B_X 3).trans rfl, (blk_cell B_W 0).trans rfl, (blk_cell B_W 1).trans rfl, (blk_cell B_W 2).trans rfl, (blk_cell B_W 3).trans rfl⟩ (fun hHeld => ?_)
    clear hK K
    refine pure_ (i := 6) (N := some 4) (v := ?_) (a' := ?_) #[true, true, true, true, true, true, true, false] rfl rfl (by kernel_rfl) (fun _ _ _ h => h) (Or.inl ⟨by rfl, ?_⟩) ?_ ?_
    rotate_left
    · intro w'
      go_simp
      with_reducible rfl
    rotate_left
    · simp only [Act.put, List.setIfInBounds_toArray, List.set_cons_zero, List.set_cons_succ, i64_w, i32_w]
      rfl
    refine one_ (i := 7) (N := none) #[true, true, true, true, true, true, true, true] rfl rfl (by kernel_rfl) (by decide) (fun K hK => ?_)
    have hst_ : (Instr.storeAt 58 (.pointer (some ⟨g5, 0, none⟩)) (.agg #[.int .i64 0, .int .i64 0, .string ⟨#[]⟩, .slice none 0 0])).run Try.prog v2 = .ok () ((((v2.setCell ⟨g5, 0, none⟩ (.int .i64 0)).setCell ⟨g5, 1, none⟩ (.int .i64 0)).setCell ⟨g5, 2, none⟩ (.string ⟨#[]⟩)).setCell ⟨g5, 3, none⟩ (.slice none 0 0)) := store4 B_W
    refine skip_ (by rfl) rfl (w1 := ((((v2.setCell ⟨g5, 0, none⟩ (.int .i64 0)).setCell ⟨g5, 1, none⟩ (.int .i64 0)).setCell ⟨g5, 2, none⟩ (.string ⟨#[]⟩)).setCell ⟨g5, 3, none⟩ (.slice none 0 0))) (ins_st hst_) ?_
    clear hst_
    obtain ⟨s1_, s2_, s3_⟩ := set4 (.int .i64 0) (.int .i64 0) (.string ⟨#[]⟩) (.slice none 0 0) B_W
    replace HB := s3_ _ _ HB (by have := HG.out; have := HS2.out; have := HS5.out; omega)
    replace B_H := (s2_ _ (by have := HG.out; have := HS2.out; have := HS5.out; omega)).trans B_H
    replace B_R := (s2_ _ (by have := HG.out; have := HS2.out; have := HS5.out; omega)).trans B_R
    replace B_P := (s2_ _ (by have := HG.out; have := HS2.out; have := HS5.out; omega)).trans B_P
    replace B_X := (s2_ _ (by have := HG.out; have := HS2.out; have := HS5.out; omega)).trans B_X
    replace B_W := s1_
    replace HS : ∀ q, q ≠ g2 → q ≠ g3 → q ≠ g5 → _ = vc.heap[q]? := fun q h2_ h3_ h5_ => (s2_ q (by assumption)).trans (HS q h2_ h3_ h5_)
    clear s1_ s2_ s3_
    generalize ((((v2.setCell ⟨g5, 0, none⟩ (.int .i64 0)).setCell ⟨g5, 1, none⟩ (.int .i64 0)).setCell ⟨g5, 2, none⟩ (.string ⟨#[]⟩)).setCell ⟨g5, 3, none⟩ (.slice none 0 0)) = v3 at *
    refine hK.out _ _ ⟨(blk_cell B_P 0).trans rfl, (blk_cell B_P 1).trans rfl, (blk_cell B_P 2).trans rfl, (blk_cell B_P 3).trans rfl, (blk_cell B_X 0).trans rfl, (blk_cell B_X 1).trans rfl, (blk_cell B_X 2).trans rfl, (blk_cell B_X 3).trans rfl, (blk_cell B_W 0).trans rfl, (blk_cell B_W 1).trans rfl, (blk_cell B_W 2).trans rfl, (blk_cell B_W 3).trans rfl⟩ (fun hHeld => ?_)
    clear hK K
    refine done_ (by kernel_rfl) ?_
    go_wp2_with fail
    refine bodyPost_ret (res32 (by rfl) (by rfl) (by rfl) (by rfl) B_H B_R B_W) rfl ?_
    exact ⟨_, _, _, by rw [HV.out], by rw [HV.out]; exact ⟨Ao, co, rfl, hco, (Kd.F_mono (Kd.F_step hFo (fun q hq _ => HS q (by have := HG.out; have hq2 : v0.heap.size ≤ q := hq; have := HSV; omega) (by have := HG.out; have hq2 : v0.heap.size ≤ q := hq; have := HSV; omega) (by have := HG.out; have hq2 : v0.heap.size ≤ q := hq; have := HSV; omega))) (fun q hq => Or.inr (by have hq2 : v0.heap.size ≤ q := hq; have := HSV; omega)))⟩, by rw [HV.out]; exact ⟨Ar, cr, rfl, CR_.out, (Kd.F_mono (Kd.F_step F_r (fun q hq _ => HS q (by have := HG.out; have := HS2.out; have := HS4.out; have := (show q < w.heap.size ∨ _ ≤ q from hq.imp (fun h => Hok.out q h) id); omega) (by have := HG.out; have := HS2.out; have := HS4.out; have := (show q < w.heap.size ∨ _ ≤ q from hq.imp (fun h => Hok.out q h) id); omega) (by have := HG.out; have := HS2.out; have := HS4.out; have := (show q < w.heap.size ∨ _ ≤ q from hq.imp (fun h => Hok.out q h) id); omega))) (fun q hq => hq.imp id (fun h => by have := HS2.out; have := HS4.out; omega)))⟩, by rw [HV.out]; exact TM_z _ _, HB⟩
  · skip
    obtain ⟨er, r, hR⟩ : ∃ er r, bodyR b = (er, r) := ⟨_, _, rfl⟩
    have hbody : Aside0 (∀ W : World, (∀ q, ok q → q < W.heap.size) → Kd.F k58 W ok Ab b.f3.length b.f3 → Calls Try.prog 42 #[.agg #[.int .i64 b.f0, .int .i64 b.f1, .string b.f2, .slice Ab b.f3.length cb]] W (fun e w' => ∃ A' c', e = .returned (.tuple #[.agg #[.int .i64 r.f0, .int .i64 r.f1, .string r.f2, .slice A' r.f3.length c'], .int .i64 er]) ∧ r.f3.length ≤ c' ∧ Kd.F k58 w' (fun k => ok k ∨ W.heap.size ≤ k) A' r.f3.length r.f3 ∧ Below W.heap.size W w')) := ⟨fun W h1 h2 => by
      have := Body_calls b SB.out Ab cb W ok h1 h2 CB.out
      unfold BodyP at this
      rw [hR] at this
      exact this⟩
    rw [hR] at hE
    dsimp only at hE
    obtain rfl : er = 13 := hE
    replace HV := Aside0.mk (show clauseR ⟨k, m, s, [h, b]⟩ = ⟨z58, z58, 13, b⟩ by rw [HV.out]; unfold clauseHBR; rw [if_neg hp.1, if_neg hp.2, hR]; rfl)
    have q1 : (h.f0 == 1) = false := by simpa using hp.1
    have q2 : (h.f0 == 2) = false := by simpa using hp.2
    clear hp hR
    go_wp2_with (first
      | (go_at_call 42
         refine (hbody.out _ (fun q hq => Nat.lt_of_lt_of_le (Hok.out q hq) HB0.out.size) FB.out).mono ?_
         rintro e w5 ⟨Ar, cr, rfl, hcr, hFr, hbl⟩
         have CR_ := Aside0.mk hcr
         have HS4 := Aside0.mk (show w2.heap.size ≤ (y1).heap.size from SZ4.out)
         have HS5 := Aside0.mk (show w2.heap.size + 2 ≤ w5.heap.size from Nat.le_trans SZ42.out hbl.size)
         replace HB0 := Aside0.mk (show Below w.heap.size w (w5.alloc (.cells #[.int .i64 r.f0, .int .i64 r.f1, .string r.f2, .slice Ar r.f3.length cr] 58)) from below_alloc (below_step HB0.out hbl) _)
         replace HK2 := Aside0.mk (show (w5.alloc (.cells #[.int .i64 r.f0, .int .i64 r.f1, .string r.f2, .slice Ar r.f3.length cr] 58)).heap[_]? = _ from blk_alloc (blk_below HK2.out hbl) _)
         replace HK3 := Aside0.mk (show (w5.alloc (.cells #[.int .i64 r.f0, .int .i64 r.f1, .string r.f2, .slice Ar r.f3.length cr] 58)).heap[_]? = _ from blk_alloc (blk_below HK3.out hbl) _)
         replace HK5 := Aside0.mk (show (w5.alloc (.cells #[.int .i64 r.f0, .int .i64 r.f1, .string r.f2, .slice Ar r.f3.length cr] 58)).heap[_]? = _ from blk_alloc (blk_below HK5.out hbl) _)
         replace KP := Aside0.mk (show (w5.alloc (.cells #[.int .i64 r.f0, .int .i64 r.f1, .string r.f2, .slice Ar r.f3.length cr] 58)).heap[_]? = _ from blk_alloc (blk_below KP.out hbl) _)
         replace KB := Aside0.mk (show (w5.alloc (.cells #[.int .i64 r.f0, .int .i64 r.f1, .string r.f2, .slice Ar r.f3.length cr] 58)).heap[_]? = _ from blk_alloc (blk_below KB.out hbl) _)
         have KX := Aside0.mk (show (w5.alloc (.cells #[.int .i64 r.f0, .int .i64 r.f1, .string r.f2, .slice Ar r.f3.length cr] 58)).heap[w5.heap.size]? = some (.cells #[.int .i64 r.f0, .int .i64 r.f1, .string r.f2, .slice Ar r.f3.length cr] 58 (0, 0)) from heap_alloc_new _ _)
         replace FH := Aside0.mk (show Kd.F k58 (w5.alloc (.cells #[.int .i64 r.f0, .int .i64 r.f1, .string r.f2, .slice Ar r.f3.length cr] 58)) ok Ah h.f3.length h.f3 from Kd.F_alloc (Kd.F_below FH.out hbl) _)
         replace FB := Aside0.mk (show Kd.F k58 (w5.alloc (.cells #[.int .i64 r.f0, .int .i64 r.f1, .string r.f2, .slice Ar r.f3.length cr] 58)) ok Ab b.f3.length b.f3 from Kd.F_alloc (Kd.F_below FB.out hbl) _)
         have FR := Aside0.mk (show Kd.F k58 (w5.alloc (.cells #[.int .i64 r.f0, .int .i64 r.f1, .string r.f2, .slice Ar r.f3.length cr] 58)) (fun k => ok k ∨ (y1).heap.size ≤ k) Ar r.f3.length r.f3 from Kd.F_alloc hFr _)
         have HSY := Aside0.mk (show w.heap.size + 4 ≤ (w5.alloc (.cells #[.int .i64 r.f0, .int .i64 r.f1, .string r.f2, .slice Ar r.f3.length cr] 58)).heap.size by have := HS2.out; have := HS5.out; have h9 : (w5.alloc (.cells #[.int .i64 r.f0, .int .i64 r.f1, .string r.f2, .slice Ar r.f3.length cr] 58)).heap.size = w5.heap.size + 1 := al_sz _ _; omega)
         clear hFr hbl hcr))
    have B_H := HK2.out
    have B_R := HK3.out
    have B_W := HK5.out
    have HB := HB0.out
    have B_B := KB.out
    have F_b := FB.out
    have HSZ : w.heap.size ≤ ((w5.alloc (.cells #[.int .i64 r.f0, .int .i64 r.f1, .string r.f2, .slice Ar r.f3.length cr] 58))).heap.size := HB.size
    generalize (w5.alloc (.cells #[.int .i64 r.f0, .int .i64 r.f1, .string r.f2, .slice Ar r.f3.length cr] 58)) = y0 at *
    refine start_ (n := 9) (S := fun w' => w'.cell? ⟨g2, 0, none⟩ = some (.int .i64 0) ∧ w'.cell? ⟨g2, 1, none⟩ = some (.int .i64 0) ∧ w'.cell? ⟨g2, 2, none⟩ = some (.string ⟨#[]⟩) ∧ w'.cell? ⟨g2, 3, none⟩ = some (.slice none 0 0) ∧ w'.cell? ⟨g3, 0, none⟩ = some (.int .i64 0) ∧ w'.cell? ⟨g3, 1, none⟩ = some (.int .i64 0) ∧ w'.cell? ⟨g3, 2, none⟩ = some (.string ⟨#[]⟩) ∧ w'.cell? ⟨g3, 3, none⟩ = some (.slice none 0 0) ∧ w'.cell? ⟨w2.heap.size + 1, 0, none⟩ = some (.int .i64 b.f0) ∧ w'.cell? ⟨w2.heap.size + 1, 1, none⟩ = some (.int .i64 b.f1) ∧ w'.cell? ⟨w2.heap.size + 1, 2, none⟩ = some (.string b.f2) ∧ w'.cell? ⟨w2.heap.size + 1, 3, none⟩ = some (.slice Ab b.f3.length cb)) (ds := []) #[false, false, false, false, false, false, false, false, false] (by kernel_rfl) rfl rfl ⟨(blk_cell (blk_drew B_H) 0).trans rfl, (blk_cell (blk_drew B_H) 1).trans rfl, (blk_cell (blk_drew B_H) 2).trans rfl, (blk_cell (blk_drew B_H) 3).trans rfl, (blk_cell (blk_drew B_R) 0).trans rfl, (blk_cell (blk_drew B_R) 1).trans rfl, (blk_cell (blk_drew B_R) 2).trans rfl, (blk_cell (blk_drew B_R) 3).trans rfl, (blk_cell (blk_drew B_B) 0).trans rfl, (blk_cell (blk_drew B_B) 1).trans rfl, (blk_cell (blk_drew B_B) 2).trans rfl, (blk_cell (blk_drew B_B) 3).trans rfl⟩ (fun hHeld => ?_)
    replace B_H := blk_drew B_H
    replace B_R := blk_drew B_R
    replace B_W := blk_drew B_W
    replace B_B := blk_drew B_B
    replace HB := HB.drew
    replace F_b := Kd.F_drew F_b
    have HSV0 : w.heap.size + 4 ≤ y0.drew.heap.size := by have := HSY.out; simpa using this
    generalize y0.drew = v0 at *
    have HS : ∀ q, q ≠ g2 → q ≠ g3 → q ≠ g5 → v0.heap[q]? = v0.heap[q]? := fun _ _ _ _ => rfl
    refine take_ (i := 0) (N := some 68) (v := ?_) (a' := ?_) #[true, false, false, false, false, false, false, false, false] rfl rfl (by kernel_rfl) (fun _ _ _ h => h) (Or.inl ⟨by rfl, ?_⟩) hHeld ?_ ?_
    rotate_left
    · rintro w' ⟨s0, s1, s2, s3, s4, s5, s6, s7, s8, s9, s10, s11⟩
      go_simp
      with_reducible rfl
    rotate_left
    · simp only [Act.put, List.setIfInBounds_toArray, List.set_cons_zero, List.set_cons_succ, i64_w, i32_w]
      rfl
    refine take_ (i := 1) (N := some 69) (v := ?_) (a' := ?_) #[true, true, false, false, false, false, false, false, false] rfl rfl (by kernel_rfl) (fun _ _ _ h => h) (Or.inl ⟨by rfl, ?_⟩) hHeld ?_ ?_
    rotate_left
    · rintro w' ⟨s0, s1, s2, s3, s4, s5, s6, s7, s8, s9, s10, s11⟩
      go_simp
      with_reducible rfl
    rotate_left
    · simp only [Act.put, List.setIfInBounds_toArray, List.set_cons_zero, List.set_cons_succ, i64_w, i32_w]
      rfl
    refine pure_ (i := 2) (N := some 70) (v := ?_) (a' := ?_) #[true, true, true, false, false, false, false, false, false] rfl rfl (by kernel_rfl) (fun _ _ _ h => h) (Or.inl ⟨by rfl, ?_⟩) ?_ ?_
    rotate_left
    · intro w'
      go_simp
      with_reducible rfl
    rotate_left
    · simp only [Act.put, List.setIfInBounds_toArray, List.set_cons_zero, List.set_cons_succ, i64_w, i32_w]
      rfl
    refine take_ (i := 3) (N := some 71) (v := ?_) (a' := ?_) #[true, true, true, true, false, false, false, false, false] rfl rfl (by kernel_rfl) (fun _ _ _ h => h) (Or.inl ⟨by rfl, ?_⟩) hHeld ?_ ?_
    rotate_left
    · rintro w' ⟨s0, s1, s2, s3, s4, s5, s6, s7, s8, s9, s10, s11⟩
      go_simp
      with_reducible rfl
    rotate_left
    · simp only [Act.put, List.setIfInBounds_toArray, List.set_cons_zero, List.set_cons_succ, i64_w, i32_w]
      rfl
    refine one_ (i := 4) (N := some 72) #[true, true, true, true, true, false, false, false, false] rfl rfl (by kernel_rfl) (by decide) (fun K hK => ?_)
    refine goes_ Try.func75 (by kernel_rfl) rfl #[.agg #[.int .i64 b.f0, .int .i64 b.f1, .string b.f2, .slice Ab b.f3.length cb]] (by rfl) rfl rfl (by (try simp only [List.map_toArray, List.map_cons, List.map_nil]); first | done | rfl) ?_
    refine (own_calls 400000 (by decide) b SB.out Ab cb _ (Kd.F_now F_b) CB.out).mono ?_
    rintro e vc ⟨Ao, co, rfl, hco, hFo, hbo⟩
    refine ⟨_, rfl, ?_⟩
    replace B_H := blk_below B_H hbo
    replace B_R := blk_below B_R hbo
    replace B_W := blk_below B_W hbo
    replace B_B := blk_below B_B hbo
    replace HB := below_step HB hbo
    replace F_b := Kd.F_below F_b hbo
    have hszo := hbo.size
    have HSV : w.heap.size + 4 ≤ v0.heap.size := HSV0
    clear HS
    have HS : ∀ q, q ≠ g2 → q ≠ g3 → q ≠ g5 → vc.heap[q]? = vc.heap[q]? := fun _ _ _ _ => rfl
    refine hK.out _ _ ⟨(blk_cell B_H 0).trans rfl, (blk_cell B_H 1).trans rfl, (blk_cell B_H 2).trans rfl, (blk_cell B_H 3).trans rfl, (blk_cell B_R 0).trans rfl, (blk_cell B_R 1).trans rfl, (blk_cell B_R 2).trans rfl, (blk_cell B_R 3).trans rfl, (blk_cell B_B 0).trans rfl, (blk_cell B_B 1).trans rfl, (blk_cell B_B 2).trans rfl, (blk_cell B_B 3).trans rfl⟩ (fun hHeld => ?_)
    clear hK K
    refine norm_ (a' := ?_) ?_ ?_
    rotate_left
    · show Act.put _ (some 72) _ = _
      simp only [Act.put, List.setIfInBounds_toArray, List.set_cons_zero, List.set_cons_succ, i64_w, i32_w]
      rfl
    refine one_ (i := 5) (N := none) #[true, true, true, true, true, true, false, false, false] rfl rfl (by kernel_rfl) (by decide) (fun K hK => ?_)
    have hst_ : (Instr.storeAt 58 (.pointer (some ⟨g2, 0, none⟩)) (.agg #[.int .i64 0, .int .i64 0, .string ⟨#[]⟩, .slice none 0 0])).run Try.prog vc = .ok () ((((vc.setCell ⟨g2, 0, none⟩ (.int .i64 0)).setCell ⟨g2, 1, none⟩ (.int .i64 0)).setCell ⟨g2, 2, none⟩ (.string ⟨#[]⟩)).setCell ⟨g2, 3, none⟩ (.slice none 0 0)) := store4 B_H
    refine skip_ (by rfl) rfl (w1 := ((((vc.setCell ⟨g2, 0, none⟩ (.int .i64 0)).setCell ⟨g2, 1, none⟩ (.int .i64 0)).setCell ⟨g2, 2, none⟩ (.string ⟨#[]⟩)).setCell ⟨g2, 3, none⟩ (.slice none 0 0))) (ins_st hst_) ?_
    clear hst_
    obtain ⟨s1_, s2_, s3_⟩ := set4 (.int .i64 0) (.int .i64 0) (.string ⟨#[]⟩) (.slice none 0 0) B_H
    replace HB := s3_ _ _ HB (by have := HG.out; have := HS2.out; have := HS5.out; omega)
    replace B_R := (s2_ _ (by have := HG.out; have := HS2.out; have := HS5.out; omega)).trans B_R
    replace B_W := (s2_ _ (by have := HG.out; have := HS2.out; have := HS5.out; omega)).trans B_W
    replace B_B := (s2_ _ (by have := HG.out; have := HS2.out; have := HS5.out; omega)).trans B_B
    replace B_H := s1_
    replace HS : ∀ q, q ≠ g2 → q ≠ g3 → q ≠ g5 → _ = vc.heap[q]? := fun q h2_ h3_ h5_ => (s2_ q (by assumption)).trans (HS q h2_ h3_ h5_)
    clear s1_ s2_ s3_
    generalize ((((vc.setCell ⟨g2, 0, none⟩ (.int .i64 0)).setCell ⟨g2, 1, none⟩ (.int .i64 0)).setCell ⟨g2, 2, none⟩ (.string ⟨#[]⟩)).setCell ⟨g2, 3, none⟩ (.slice none 0 0)) = v1 at *
    refine hK.out _ _ ⟨(blk_cell B_H 0).trans rfl, (blk_cell B_H 1).trans rfl, (blk_cell B_H 2).trans rfl, (blk_cell B_H 3).trans rfl, (blk_cell B_R 0).trans rfl, (blk_cell B_R 1).trans rfl, (blk_cell B_R 2).trans rfl, (blk_cell B_R 3).trans rfl, (blk_cell B_B 0).trans rfl, (blk_cell B_B 1).trans rfl, (blk_cell B_B 2).trans rfl, (blk_cell B_B 3).trans rfl⟩ (fun hHeld => ?_)
    clear hK K
    refine one_ (i := 6) (N := none) #[true, true, true, true, true, true, true, false, false] rfl rfl (by kernel_rfl) (by decide) (fun K hK => ?_)
    have hst_ : (Instr.storeAt 58 (.pointer (some ⟨g3, 0, none⟩)) (.agg #[.int .i64 0, .int .i64 0, .string ⟨#[]⟩, .slice none 0 0])).run Try.prog v1 = .ok () ((((v1.setCell ⟨g3, 0, none⟩ (.int .i64 0)).setCell ⟨g3, 1, none⟩ (.int .i64 0)).setCell ⟨g3, 2, none⟩ (.string ⟨#[]⟩)).setCell ⟨g3, 3, none⟩ (.slice none 0 0)) := store4 B_R
    refine skip_ (by rfl) rfl (w1 := ((((v1.setCell ⟨g3, 0, none⟩ (.int .i64 0)).setCell ⟨g3, 1, none⟩ (.int .i64 0)).setCell ⟨g3, 2, none⟩ (.string ⟨#[]⟩)).setCell ⟨g3, 3, none⟩ (.slice none 0 0))) (ins_st hst_) ?_
    clear hst_
    obtain ⟨s1_, s2_, s3_⟩ := set4 (.int .i64 0) (.int .i64 0) (.string ⟨#[]⟩) (.slice none 0 0) B_R
    replace HB := s3_ _ _ HB (by have := HG.out; have := HS2.out; have := HS5.out; omega)
    replace B_H := (s2_ _ (by have := HG.out; have := HS2.out; have := HS5.out; omega)).trans B_H
    replace B_W := (s2_ _ (by have := HG.out; have := HS2.out; have := HS5.out; omega)).trans B_W
    replace B_B := (s2_ _ (by have := HG.out; have := HS2.out; have := HS5.out; omega)).trans B_B
    replace B_R := s1_
    replace HS : ∀ q, q ≠ g2 → q ≠ g3 → q ≠ g5 → _ = vc.heap[q]? := fun q h2_ h3_ h5_ => (s2_ q (by assumption)).trans (HS q h2_ h3_ h5_)
    clear s1_ s2_ s3_
    generalize ((((v1.setCell ⟨g3, 0, none⟩ (.int .i64 0)).setCell ⟨g3, 1, none⟩ (.int .i64 0)).setCell ⟨g3, 2, none⟩ (.string ⟨#[]⟩)).setCell ⟨g3, 3, none⟩ (.slice none 0 0)) = v2 at *
    refine hK.out _ _ ⟨(blk_cell B_H 0).trans rfl, (blk_cell B_H 1).trans rfl, (blk_cell B_H 2).trans rfl, (blk_cell B_H 3).trans rfl, (blk_cell B_R 0).trans rfl, (blk_cell B_R 1).trans rfl, (blk_cell B_R 2).trans rfl, (blk_cell B_R 3).trans rfl, (blk_cell B_B 0).trans rfl, (blk_cell B_B 1).trans rfl, (blk_cell B_B 2).trans rfl, (blk_cell B_B 3).trans rfl⟩ (fun hHeld => ?_)
    clear hK K
    refine pure_ (i := 7) (N := some 4) (v := ?_) (a' := ?_) #[true, true, true, true, true, true, true, true, false] rfl rfl (by kernel_rfl) (fun _ _ _ h => h) (Or.inl ⟨by rfl, ?_⟩) ?_ ?_
    rotate_left
    · intro w'
      go_simp
      with_reducible rfl
    rotate_left
    · simp only [Act.put, List.setIfInBounds_toArray, List.set_cons_zero, List.set_cons_succ, i64_w, i32_w]
      rfl
    refine one_ (i := 8) (N := none) #[true, true, true, true, true, true, true, true, true] rfl rfl (by kernel_rfl) (by decide) (fun K hK => ?_)
    have hst_ : (Instr.storeAt 58 (.pointer (some ⟨g5, 0, none⟩)) (.agg #[.int .i64 b.f0, .int .i64 b.f1, .string b.f2, .slice Ao b.f3.length co])).run Try.prog v2 = .ok () ((((v2.setCell ⟨g5, 0, none⟩ (.int .i64 b.f0)).setCell ⟨g5, 1, none⟩ (.int .i64 b.f1)).setCell ⟨g5, 2, none⟩ (.string b.f2)).setCell ⟨g5, 3, none⟩ (.slice Ao b.f3.length co)) := store4 B_W
    refine skip_ (by rfl) rfl (w1 := ((((v2.setCell ⟨g5, 0, none⟩ (.int .i64 b.f0)).setCell ⟨g5, 1, none⟩ (.int .i64 b.f1)).setCell ⟨g5, 2, none⟩ (.string b.f2)).setCell ⟨g5, 3, none⟩ (.slice Ao b.f3.length co))) (ins_st hst_) ?_
    clear hst_
    obtain ⟨s1_, s2_, s3_⟩ := set4 (.int .i64 b.f0) (.int .i64 b.f1) (.string b.f2) (.slice Ao b.f3.length co) B_W
    replace HB := s3_ _ _ HB (by have := HG.out; have := HS2.out; have := HS5.out; omega)
    replace B_H := (s2_ _ (by have := HG.out; have := HS2.out; have := HS5.out; omega)).trans B_H
    replace B_R := (s2_ _ (by have := HG.out; have := HS2.out; have := HS5.out; omega)).trans B_R
    replace B_B := (s2_ _ (by have := HG.out; have := HS2.out; have := HS5.out; omega)).trans B_B
    replace B_W := s1_
    replace HS : ∀ q, q ≠ g2 → q ≠ g3 → q ≠ g5 → _ = vc.heap[q]? := fun q h2_ h3_ h5_ => (s2_ q (by assumption)).trans (HS q h2_ h3_ h5_)
    clear s1_ s2_ s3_
    generalize ((((v2.setCell ⟨g5, 0, none⟩ (.int .i64 b.f0)).setCell ⟨g5, 1, none⟩ (.int .i64 b.f1)).setCell ⟨g5, 2, none⟩ (.string b.f2)).setCell ⟨g5, 3, none⟩ (.slice Ao b.f3.length co)) = v3 at *
    refine hK.out _ _ ⟨(blk_cell B_H 0).trans rfl, (blk_cell B_H 1).trans rfl, (blk_cell B_H 2).trans rfl, (blk_cell B_H 3).trans rfl, (blk_cell B_R 0).trans rfl, (blk_cell B_R 1).trans rfl, (blk_cell B_R 2).trans rfl, (blk_cell B_R 3).trans rfl, (blk_cell B_B 0).trans rfl, (blk_cell B_B 1).trans rfl, (blk_cell B_B 2).trans rfl, (blk_cell B_B 3).trans rfl⟩ (fun hHeld => ?_)
    clear hK K
    refine done_ (by kernel_rfl) ?_
    go_wp2_with fail
    refine bodyPost_ret (res32 (by rfl) (by rfl) (by rfl) (by rfl) B_H B_R B_W) rfl ?_
    exact ⟨_, _, _, by rw [HV.out], by rw [HV.out]; exact TM_z _ _, by rw [HV.out]; exact TM_z _ _, by rw [HV.out]; exact ⟨Ao, co, rfl, hco, (Kd.F_mono (Kd.F_step hFo (fun q hq _ => HS q (by have := HG.out; have hq2 : v0.heap.size ≤ q := hq; have := HSV; omega) (by have := HG.out; have hq2 : v0.heap.size ≤ q := hq; have := HSV; omega) (by have := HG.out; have hq2 : v0.heap.size ≤ q := hq; have := HSV; omega))) (fun q hq => Or.inr (by have hq2 : v0.heap.size ≤ q := hq; have := HSV; omega)))⟩, HB⟩
  · skip
    obtain ⟨er, r, hR⟩ : ∃ er r, bodyR b = (er, r) := ⟨_, _, rfl⟩
    have hbody : Aside0 (∀ W : World, (∀ q, ok q → q < W.heap.size) → Kd.F k58 W ok Ab b.f3.length b.f3 → Calls Try.prog 42 #[.agg #[.int .i64 b.f0, .int .i64 b.f1, .string b.f2, .slice Ab b.f3.length cb]] W (fun e w' => ∃ A' c', e = .returned (.tuple #[.agg #[.int .i64 r.f0, .int .i64 r.f1, .string r.f2, .slice A' r.f3.length c'], .int .i64 er]) ∧ r.f3.length ≤ c' ∧ Kd.F k58 w' (fun k => ok k ∨ W.heap.size ≤ k) A' r.f3.length r.f3 ∧ Below W.heap.size W w')) := ⟨fun W h1 h2 => by
      have := Body_calls b SB.out Ab cb W ok h1 h2 CB.out
      unfold BodyP at this
      rw [hR] at this
      exact this⟩
    rw [hR] at hE
    dsimp only at hE
    replace HV := Aside0.mk (show clauseR ⟨k, m, s, [h, b]⟩ = ⟨z58, z58, er, z58⟩ by rw [HV.out]; unfold clauseHBR; rw [if_neg hp.1, if_neg hp.2, hR]; dsimp only; rw [if_neg hE.1, if_neg hE.2])
    have he0 : (er == 0) = false := by simpa using hE.1
    have he1 : (er == 13) = false := by simpa using hE.2
    have q1 : (h.f0 == 1) = false := by simpa using hp.1
    have q2 : (h.f0 == 2) = false := by simpa using hp.2
    clear hp hR
    clear hE
    go_wp2_with (first
      | (go_at_call 42
         refine (hbody.out _ (fun q hq => Nat.lt_of_lt_of_le (Hok.out q hq) HB0.out.size) FB.out).mono ?_
         rintro e w5 ⟨Ar, cr, rfl, hcr, hFr, hbl⟩
         have CR_ := Aside0.mk hcr
         have HS4 := Aside0.mk (show w2.heap.size ≤ (y1).heap.size from SZ4.out)
         have HS5 := Aside0.mk (show w2.heap.size + 2 ≤ w5.heap.size from Nat.le_trans SZ42.out hbl.size)
         replace HB0 := Aside0.mk (show Below w.heap.size w (w5.alloc (.cells #[.int .i64 r.f0, .int .i64 r.f1, .string r.f2, .slice Ar r.f3.length cr] 58)) from below_alloc (below_step HB0.out hbl) _)
         replace HK2 := Aside0.mk (show (w5.alloc (.cells #[.int .i64 r.f0, .int .i64 r.f1, .string r.f2, .slice Ar r.f3.length cr] 58)).heap[_]? = _ from blk_alloc (blk_below HK2.out hbl) _)
         replace HK3 := Aside0.mk (show (w5.alloc (.cells #[.int .i64 r.f0, .int .i64 r.f1, .string r.f2, .slice Ar r.f3.length cr] 58)).heap[_]? = _ from blk_alloc (blk_below HK3.out hbl) _)
         replace HK5 := Aside0.mk (show (w5.alloc (.cells #[.int .i64 r.f0, .int .i64 r.f1, .string r.f2, .slice Ar r.f3.length cr] 58)).heap[_]? = _ from blk_alloc (blk_below HK5.out hbl) _)
         replace KP := Aside0.mk (show (w5.alloc (.cells #[.int .i64 r.f0, .int .i64 r.f1, .string r.f2, .slice Ar r.f3.length cr] 58)).heap[_]? = _ from blk_alloc (blk_below KP.out hbl) _)
         replace KB := Aside0.mk (show (w5.alloc (.cells #[.int .i64 r.f0, .int .i64 r.f1, .string r.f2, .slice Ar r.f3.length cr] 58)).heap[_]? = _ from blk_alloc (blk_below KB.out hbl) _)
         have KX := Aside0.mk (show (w5.alloc (.cells #[.int .i64 r.f0, .int .i64 r.f1, .string r.f2, .slice Ar r.f3.length cr] 58)).heap[w5.heap.size]? = some (.cells #[.int .i64 r.f0, .int .i64 r.f1, .string r.f2, .slice Ar r.f3.length cr] 58 (0, 0)) from heap_alloc_new _ _)
         replace FH := Aside0.mk (show Kd.F k58 (w5.alloc (.cells #[.int .i64 r.f0, .int .i64 r.f1, .string r.f2, .slice Ar r.f3.length cr] 58)) ok Ah h.f3.length h.f3 from Kd.F_alloc (Kd.F_below FH.out hbl) _)
         replace FB := Aside0.mk (show Kd.F k58 (w5.alloc (.cells #[.int .i64 r.f0, .int .i64 r.f1, .string r.f2, .slice Ar r.f3.length cr] 58)) ok Ab b.f3.length b.f3 from Kd.F_alloc (Kd.F_below FB.out hbl) _)
         have FR := Aside0.mk (show Kd.F k58 (w5.alloc (.cells #[.int .i64 r.f0, .int .i64 r.f1, .string r.f2, .slice Ar r.f3.length cr] 58)) (fun k => ok k ∨ (y1).heap.size ≤ k) Ar r.f3.length r.f3 from Kd.F_alloc hFr _)
         have HSY := Aside0.mk (show w.heap.size + 4 ≤ (w5.alloc (.cells #[.int .i64 r.f0, .int .i64 r.f1, .string r.f2, .slice Ar r.f3.length cr] 58)).heap.size by have := HS2.out; have := HS5.out; have h9 : (w5.alloc (.cells #[.int .i64 r.f0, .int .i64 r.f1, .string r.f2, .slice Ar r.f3.length cr] 58)).heap.size = w5.heap.size + 1 := al_sz _ _; omega)
         clear hFr hbl hcr))
    have B_H := HK2.out
    have B_R := HK3.out
    have B_W := HK5.out
    have HB := HB0.out
    generalize (w5.alloc (.cells #[.int .i64 r.f0, .int .i64 r.f1, .string r.f2, .slice Ar r.f3.length cr] 58)) = y0 at *
    refine start_ (n := 8) (S := fun w' => w'.cell? ⟨g2, 0, none⟩ = some (.int .i64 0) ∧ w'.cell? ⟨g2, 1, none⟩ = some (.int .i64 0) ∧ w'.cell? ⟨g2, 2, none⟩ = some (.string ⟨#[]⟩) ∧ w'.cell? ⟨g2, 3, none⟩ = some (.slice none 0 0) ∧ w'.cell? ⟨g3, 0, none⟩ = some (.int .i64 0) ∧ w'.cell? ⟨g3, 1, none⟩ = some (.int .i64 0) ∧ w'.cell? ⟨g3, 2, none⟩ = some (.string ⟨#[]⟩) ∧ w'.cell? ⟨g3, 3, none⟩ = some (.slice none 0 0) ∧ w'.cell? ⟨g5, 0, none⟩ = some (.int .i64 0) ∧ w'.cell? ⟨g5, 1, none⟩ = some (.int .i64 0) ∧ w'.cell? ⟨g5, 2, none⟩ = some (.string ⟨#[]⟩) ∧ w'.cell? ⟨g5, 3, none⟩ = some (.slice none 0 0)) (ds := []) #[false, false, false, false, false, false, false, false] (by kernel_rfl) rfl rfl ⟨(blk_cell (blk_drew B_H) 0).trans rfl, (blk_cell (blk_drew B_H) 1).trans rfl, (blk_cell (blk_drew B_H) 2).trans rfl, (blk_cell (blk_drew B_H) 3).trans rfl, (blk_cell (blk_drew B_R) 0).trans rfl, (blk_cell (blk_drew B_R) 1).trans rfl, (blk_cell (blk_drew B_R) 2).trans rfl, (blk_cell (blk_drew B_R) 3).trans rfl, (blk_cell (blk_drew B_W) 0).trans rfl, (blk_cell (blk_drew B_W) 1).trans rfl, (blk_cell (blk_drew B_W) 2).trans rfl, (blk_cell (blk_drew B_W) 3).trans rfl⟩ (fun hHeld => ?_)
    replace B_H := blk_drew B_H
    replace B_R := blk_drew B_R
    replace B_W := blk_drew B_W
    replace HB := HB.drew
    generalize y0.drew = v0 at *
    have HS : ∀ q, q ≠ g2 → q ≠ g3 → q ≠ g5 → v0.heap[q]? = v0.heap[q]? := fun _ _ _ _ => rfl
    refine take_ (i := 0) (N := some 73) (v := ?_) (a' := ?_) #[true, false, false, false, false, false, false, false] rfl rfl (by kernel_rfl) (fun _ _ _ h => h) (Or.inl ⟨by rfl, ?_⟩) hHeld ?_ ?_
    rotate_left
    · rintro w' ⟨s0, s1, s2, s3, s4, s5, s6, s7, s8, s9, s10, s11⟩
      go_simp
      with_reducible rfl
    rotate_left
    · simp only [Act.put, List.setIfInBounds_toArray, List.set_cons_zero, List.set_cons_succ, i64_w, i32_w]
      rfl
    refine take_ (i := 1) (N := some 74) (v := ?_) (a' := ?_) #[true, true, false, false, false, false, false, false] rfl rfl (by kernel_rfl) (fun _ _ _ h => h) (Or.inl ⟨by rfl, ?_⟩) hHeld ?_ ?_
    rotate_left
    · rintro w' ⟨s0, s1, s2, s3, s4, s5, s6, s7, s8, s9, s10, s11⟩
      go_simp
      with_reducible rfl
    rotate_left
    · simp only [Act.put, List.setIfInBounds_toArray, List.set_cons_zero, List.set_cons_succ, i64_w, i32_w]
      rfl
    refine pure_ (i := 2) (N := some 75) (v := ?_) (a' := ?_) #[true, true, true, false, false, false, false, false] rfl rfl (by kernel_rfl) (fun _ _ _ h => h) (Or.inl ⟨by rfl, ?_⟩) ?_ ?_
    rotate_left
    · intro w'
      go_simp
      with_reducible rfl
    rotate_left
    · simp only [Act.put, List.setIfInBounds_toArray, List.set_cons_zero, List.set_cons_succ, i64_w, i32_w]
      rfl
    refine take_ (i := 3) (N := some 76) (v := ?_) (a' := ?_) #[true, true, true, true, false, false, false, false] rfl rfl (by kernel_rfl) (fun _ _ _ h => h) (Or.inl ⟨by rfl, ?_⟩) hHeld ?_ ?_
    rotate_left
    · rintro w' ⟨s0, s1, s2, s3, s4, s5, s6, s7, s8, s9, s10, s11⟩
      go_simp
      with_reducible rfl
    rotate_left
    · simp only [Act.put, List.setIfInBounds_toArray, List.set_cons_zero, List.set_cons_succ, i64_w, i32_w]
      rfl
    refine one_ (i := 4) (N := none) #[true, true, true, true, true, false, false, false] rfl rfl (by kernel_rfl) (by decide) (fun K hK => ?_)
    have hst_ : (Instr.storeAt 58 (.pointer (some ⟨g2, 0, none⟩)) (.agg #[.int .i64 0, .int .i64 0, .string ⟨#[]⟩, .slice none 0 0])).run Try.prog v0 = .ok () ((((v0.setCell ⟨g2, 0, none⟩ (.int .i64 0)).setCell ⟨g2, 1, none⟩ (.int .i64 0)).setCell ⟨g2, 2, none⟩ (.string ⟨#[]⟩)).setCell ⟨g2, 3, none⟩ (.slice none 0 0)) := store4 B_H
    refine skip_ (by rfl) rfl (w1 := ((((v0.setCell ⟨g2, 0, none⟩ (.int .i64 0)).setCell ⟨g2, 1, none⟩ (.int .i64 0)).setCell ⟨g2, 2, none⟩ (.string ⟨#[]⟩)).setCell ⟨g2, 3, none⟩ (.slice none 0 0))) (ins_st hst_) ?_
    clear hst_
    obtain ⟨s1_, s2_, s3_⟩ := set4 (.int .i64 0) (.int .i64 0) (.string ⟨#[]⟩) (.slice none 0 0) B_H
    replace HB := s3_ _ _ HB (by have := HG.out; have := HS2.out; have := HS5.out; omega)
    replace B_R := (s2_ _ (by have := HG.out; have := HS2.out; have := HS5.out; omega)).trans B_R
    replace B_W := (s2_ _ (by have := HG.out; have := HS2.out; have := HS5.out; omega)).trans B_W
    replace B_H := s1_
    replace HS : ∀ q, q ≠ g2 → q ≠ g3 → q ≠ g5 → _ = v0.heap[q]? := fun q h2_ h3_ h5_ => (s2_ q (by assumption)).trans (HS q h2_ h3_ h5_)
    clear s1_ s2_ s3_
    generalize ((((v0.setCell ⟨g2, 0, none⟩ (.int .i64 0)).setCell ⟨g2, 1, none⟩ (.int .i64 0)).setCell ⟨g2, 2, none⟩ (.string ⟨#[]⟩)).setCell ⟨g2, 3, none⟩ (.slice none 0 0)) = v1 at *
    refine hK.out _ _ ⟨(blk_cell B_H 0).trans rfl, (blk_cell B_H 1).trans rfl, (blk_cell B_H 2).trans rfl, (blk_cell B_H 3).trans rfl, (blk_cell B_R 0).trans rfl, (blk_cell B_R 1).trans rfl, (blk_cell B_R 2).trans rfl, (blk_cell B_R 3).trans rfl, (blk_cell B_W 0).trans rfl, (blk_cell B_W 1).trans rfl, (blk_cell B_W 2).trans rfl, (blk_cell B_W 3).trans rfl⟩ (fun hHeld => ?_)
    clear hK K
    refine one_ (i := 5) (N := none) #[true, true, true, true, true, true, false, false] rfl rfl (by kernel_rfl) (by decide) (fun K hK => ?_)
    have hst_ : (Instr.storeAt 58 (.pointer (some ⟨g3, 0, none⟩)) (.agg #[.int .i64 0, .int .i64 0, .string ⟨#[]⟩, .slice none 0 0])).run Try.prog v1 = .ok () ((((v1.setCell ⟨g3, 0, none⟩ (.int .i64 0)).setCell ⟨g3, 1, none⟩ (.int .i64 0)).setCell ⟨g3, 2, none⟩ (.string ⟨#[]⟩)).setCell ⟨g3, 3, none⟩ (.slice none 0 0)) := store4 B_R
    refine skip_ (by rfl) rfl (w1 := ((((v1.setCell ⟨g3, 0, none⟩ (.int .i64 0)).setCell ⟨g3, 1, none⟩ (.int .i64 0)).setCell ⟨g3, 2, none⟩ (.string ⟨#[]⟩)).setCell ⟨g3, 3, none⟩ (.slice none 0 0))) (ins_st hst_) ?_
    clear hst_
    obtain ⟨s1_, s2_, s3_⟩ := set4 (.int .i64 0) (.int .i64 0) (.string ⟨#[]⟩) (.slice none 0 0) B_R
    replace HB := s3_ _ _ HB (by have := HG.out; have := HS2.out; have := HS5.out; omega)
    replace B_H := (s2_ _ (by have := HG.out; have := HS2.out; have := HS5.out; omega)).trans B_H
    replace B_W := (s2_ _ (by have := HG.out; have := HS2.out; have := HS5.out; omega)).trans B_W
    replace B_R := s1_
    replace HS : ∀ q, q ≠ g2 → q ≠ g3 → q ≠ g5 → _ = v0.heap[q]? := fun q h2_ h3_ h5_ => (s2_ q (by assumption)).trans (HS q h2_ h3_ h5_)
    clear s1_ s2_ s3_
    generalize ((((v1.setCell ⟨g3, 0, none⟩ (.int .i64 0)).setCell ⟨g3, 1, none⟩ (.int .i64 0)).setCell ⟨g3, 2, none⟩ (.string ⟨#[]⟩)).setCell ⟨g3, 3, none⟩ (.slice none 0 0)) = v2 at *
    refine hK.out _ _ ⟨(blk_cell B_H 0).trans rfl, (blk_cell B_H 1).trans rfl, (blk_cell B_H 2).trans rfl, (blk_cell B_H 3).trans rfl, (blk_cell B_R 0).trans rfl, (blk_cell B_R 1).trans rfl, (blk_cell B_R 2).trans rfl, (blk_cell B_R 3).trans rfl, (blk_cell B_W 0).trans rfl, (blk_cell B_W 1).trans rfl, (blk_cell B_W 2).trans rfl, (blk_cell B_W 3).trans rfl⟩ (fun hHeld => ?_)
    clear hK K
    refine pure_ (i := 6) (N := some 4) (v := ?_) (a' := ?_) #[true, true, true, true, true, true, true, false] rfl rfl (by kernel_rfl) (fun _ _ _ h => h) (Or.inl ⟨by rfl, ?_⟩) ?_ ?_
    rotate_left
    · intro w'
      go_simp
      with_reducible rfl
    rotate_left
    · simp only [Act.put, List.setIfInBounds_toArray, List.set_cons_zero, List.set_cons_succ, i64_w, i32_w]
      rfl
    refine one_ (i := 7) (N := none) #[true, true, true, true, true, true, true, true] rfl rfl (by kernel_rfl) (by decide) (fun K hK => ?_)
    have hst_ : (Instr.storeAt 58 (.pointer (some ⟨g5, 0, none⟩)) (.agg #[.int .i64 0, .int .i64 0, .string ⟨#[]⟩, .slice none 0 0])).run Try.prog v2 = .ok () ((((v2.setCell ⟨g5, 0, none⟩ (.int .i64 0)).setCell ⟨g5, 1, none⟩ (.int .i64 0)).setCell ⟨g5, 2, none⟩ (.string ⟨#[]⟩)).setCell ⟨g5, 3, none⟩ (.slice none 0 0)) := store4 B_W
    refine skip_ (by rfl) rfl (w1 := ((((v2.setCell ⟨g5, 0, none⟩ (.int .i64 0)).setCell ⟨g5, 1, none⟩ (.int .i64 0)).setCell ⟨g5, 2, none⟩ (.string ⟨#[]⟩)).setCell ⟨g5, 3, none⟩ (.slice none 0 0))) (ins_st hst_) ?_
    clear hst_
    obtain ⟨s1_, s2_, s3_⟩ := set4 (.int .i64 0) (.int .i64 0) (.string ⟨#[]⟩) (.slice none 0 0) B_W
    replace HB := s3_ _ _ HB (by have := HG.out; have := HS2.out; have := HS5.out; omega)
    replace B_H := (s2_ _ (by have := HG.out; have := HS2.out; have := HS5.out; omega)).trans B_H
    replace B_R := (s2_ _ (by have := HG.out; have := HS2.out; have := HS5.out; omega)).trans B_R
    replace B_W := s1_
    replace HS : ∀ q, q ≠ g2 → q ≠ g3 → q ≠ g5 → _ = v0.heap[q]? := fun q h2_ h3_ h5_ => (s2_ q (by assumption)).trans (HS q h2_ h3_ h5_)
    clear s1_ s2_ s3_
    generalize ((((v2.setCell ⟨g5, 0, none⟩ (.int .i64 0)).setCell ⟨g5, 1, none⟩ (.int .i64 0)).setCell ⟨g5, 2, none⟩ (.string ⟨#[]⟩)).setCell ⟨g5, 3, none⟩ (.slice none 0 0)) = v3 at *
    refine hK.out _ _ ⟨(blk_cell B_H 0).trans rfl, (blk_cell B_H 1).trans rfl, (blk_cell B_H 2).trans rfl, (blk_cell B_H 3).trans rfl, (blk_cell B_R 0).trans rfl, (blk_cell B_R 1).trans rfl, (blk_cell B_R 2).trans rfl, (blk_cell B_R 3).trans rfl, (blk_cell B_W 0).trans rfl, (blk_cell B_W 1).trans rfl, (blk_cell B_W 2).trans rfl, (blk_cell B_W 3).trans rfl⟩ (fun hHeld => ?_)
    clear hK K
    refine done_ (by kernel_rfl) ?_
    go_wp2_with fail
    refine bodyPost_ret (res32 (by rfl) (by rfl) (by rfl) (by rfl) B_H B_R B_W) rfl ?_
    exact ⟨_, _, _, by rw [HV.out], by rw [HV.out]; exact TM_z _ _, by rw [HV.out]; exact TM_z _ _, by rw [HV.out]; exact TM_z _ _, HB⟩
end Go.Proofs.Ythdnaliahdohhaa.H
