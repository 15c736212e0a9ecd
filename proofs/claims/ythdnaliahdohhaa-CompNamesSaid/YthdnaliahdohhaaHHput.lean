/- comp: an instruction is put behind the others (the closure of pattern). -/
import Derived.Test.YthdnaliahdohhaaHHvar
namespace Go.Proofs.Ythdnaliahdohhaa.H
open Go.RowKit Go.Proofs.YthdnaliahdohhaaW.PrintWords Go.Proofs.YthdnaliahdohhaaW.PrintLast Go.Proofs.YthdnaliahdohhaaW.PrintMore Go.Proofs.Ythdnaliahdohhaa.Map
attribute [local go_sem] max2_int min2_int max_two min_two max_three min_three max_four min_four
set_option linter.unusedVariables false
set_option linter.unusedSimpArgs false
set_option maxHeartbeats 8000000 in
set_option maxRecDepth 100000 in
theorem put_calls (i : S39) (c : Nat) (w0 w : World) (g mt ms : Nat) (v : Value) (L : List S39) (T S : List (Int × Int)) (hI : CS w0 w g mt ms v L T S) (hc : w.heap[c]? = some (.cells #[.pointer (some ⟨g, 0, none⟩)] 139 (0, 0))) (hl : L.length ≤ 3000000) :
    Calls Try.prog 100 #[.agg #[.int .i64 i.f0, .int .i64 i.f1, .int .i64 i.f2, .string i.f3], .pointer (some ⟨c, 0, none⟩)] w fun e w' => ∃ v', e = .returned (.tuple #[]) ∧ CS w0 w' g mt ms v' (L ++ [i]) T S ∧ CStep w w' g ms v v' := by
  have hb := below_alloc (Below.refl w.heap.size w) (.cells #[.int .i64 i.f0, .int .i64 i.f1, .int .i64 i.f2, .string i.f3] 39)
  have HI := hI.step hb
  have BI := heap_alloc_new w (.cells #[.int .i64 i.f0, .int .i64 i.f1, .int .i64 i.f2, .string i.f3] 39)
  have BC := blk_below hc hb
  have HL := Aside0.mk hl
  have hsz : (w.alloc (.cells #[.int .i64 i.f0, .int .i64 i.f1, .int .i64 i.f2, .string i.f3] 39)).heap.size = w.heap.size + 1 := by simp
  have HM := Mods.of_alloc (CW g ms v) w (.cells #[.int .i64 i.f0, .int .i64 i.f1, .int .i64 i.f2, .string i.f3] 39)
  have Hsz := Aside0.mk hsz
  have Hown : Aside0 (some w.heap.size ≠ v.ownBlock) := ⟨fun he => Nat.lt_irrefl _ (Kd.N_lt hI.row _ he.symm)⟩
  clear hI hc hb hl hsz
  go_enter Try.func100, Try.ntmps100
  replace HI := Aside0.mk HI
  replace BI := Aside0.mk BI
  replace BC := Aside0.mk BC
  replace HM := Aside0.mk HM
  go_wp2_with fail
  replace HI := HI.out
  replace BI := BI.out
  replace BC := BC.out
  replace HM := HM.out
  generalize w.alloc (.cells #[.int .i64 i.f0, .int .i64 i.f1, .int .i64 i.f2, .string i.f3] 39) = w1 at *
  refine start_ (n := 11) (S := (fun w' => w'.cell? ⟨c, 0, none⟩ = some (.pointer (some ⟨g, 0, none⟩)) ∧ w'.cell? ⟨g, 0, none⟩ = some (v) ∧ w'.cell? ⟨g, 1, none⟩ = some (.map (some mt)) ∧ w'.cell? ⟨g, 2, none⟩ = some (.map (some ms)) ∧ w'.cell? ⟨w.heap.size, 0, none⟩ = some (.int .i64 i.f0) ∧ w'.cell? ⟨w.heap.size, 1, none⟩ = some (.int .i64 i.f1) ∧ w'.cell? ⟨w.heap.size, 2, none⟩ = some (.int .i64 i.f2) ∧ w'.cell? ⟨w.heap.size, 3, none⟩ = some (.string i.f3))) (ds := [10]) #[false, false, false, false, false, false, false, false, false, false, false] (by kernel_rfl) rfl rfl ⟨(blk_cell (blk_drew BC) 0).trans rfl, (blk_cell (blk_drew HI.box) 0).trans rfl, (blk_cell (blk_drew HI.box) 1).trans rfl, (blk_cell (blk_drew HI.box) 2).trans rfl, (blk_cell (blk_drew BI) 0).trans rfl, (blk_cell (blk_drew BI) 1).trans rfl, (blk_cell (blk_drew BI) 2).trans rfl, (blk_cell (blk_drew BI) 3).trans rfl⟩ (fun hHeld => ?_)
  replace HI := HI.step (below_drew (Below.refl _ _))
  replace BI := blk_drew BI
  replace BC := blk_drew BC
  replace HM := HM.then (Mods.of_drew (fun _ => False) _) (fun _ h => h.elim)
  have Hsz2 : Aside0 (w1.drew.heap.size = w.heap.size + 1) := ⟨Hsz.out⟩
  generalize w1.drew = w2 at *
  refine take_ (i := 0) (N := some 3) (v := ?_) (a' := ?_) #[true, false, false, false, false, false, false, false, false, false, false] rfl rfl (by kernel_rfl) (fun _ _ _ h => h) (Or.inl ⟨by rfl, ?_⟩) hHeld ?_ ?_
  rotate_left
  · rintro w' ⟨s0, s1, s2, s3, s4, s5, s6, s7⟩
    go_simp
    with_reducible rfl
  rotate_left
  · simp only [Act.put, List.setIfInBounds_toArray, List.set_cons_zero, List.set_cons_succ, i64_w, i32_w]
    rfl
  refine take_ (i := 1) (N := some 4) (v := ?_) (a' := ?_) #[true, true, false, false, false, false, false, false, false, false, false] rfl rfl (by kernel_rfl) (fun _ _ _ h => h) (Or.inl ⟨by rfl, ?_⟩) hHeld ?_ ?_
  rotate_left
  · rintro w' ⟨s0, s1, s2, s3, s4, s5, s6, s7⟩
    go_simp
    with_reducible rfl
  rotate_left
  · simp only [Act.put, List.setIfInBounds_toArray, List.set_cons_zero, List.set_cons_succ, i64_w, i32_w]
    rfl
  refine pure_ (i := 2) (N := some 5) (v := ?_) (a' := ?_) #[true, true, true, false, false, false, false, false, false, false, false] rfl rfl (by kernel_rfl) (fun _ _ _ h => h) (Or.inl ⟨by rfl, ?_⟩) ?_ ?_
  rotate_left
  · intro w'
    go_simp
    with_reducible rfl
  rotate_left
  · simp only [Act.put, List.setIfInBounds_toArray, List.set_cons_zero, List.set_cons_succ, i64_w, i32_w]
    rfl
  refine pure_ (i := 3) (N := some 6) (v := ?_) (a' := ?_) #[true, true, true, true, false, false, false, false, false, false, false] rfl rfl (by kernel_rfl) (fun _ _ _ h => h) (Or.inl ⟨by rfl, ?_⟩) ?_ ?_
  rotate_left
  · intro w'
    go_simp
    with_reducible rfl
  rotate_left
  · simp only [Act.put, List.setIfInBounds_toArray, List.set_cons_zero, List.set_cons_succ, i64_w, i32_w]
    rfl
  refine take_ (i := 4) (N := some 7) (v := ?_) (a' := ?_) #[true, true, true, true, true, false, false, false, false, false, false] rfl rfl (by kernel_rfl) (fun _ _ _ h => h) (Or.inl ⟨by rfl, ?_⟩) hHeld ?_ ?_
  rotate_left
  · rintro w' ⟨s0, s1, s2, s3, s4, s5, s6, s7⟩
    go_simp
    with_reducible rfl
  rotate_left
  · simp only [Act.put, List.setIfInBounds_toArray, List.set_cons_zero, List.set_cons_succ, i64_w, i32_w]
    rfl
  refine take_ (i := 5) (N := some 8) (v := ?_) (a' := ?_) #[true, true, true, true, true, true, false, false, false, false, false] rfl rfl (by kernel_rfl) (fun _ _ _ h => h) (Or.inl ⟨by rfl, ?_⟩) hHeld ?_ ?_
  rotate_left
  · rintro w' ⟨s0, s1, s2, s3, s4, s5, s6, s7⟩
    go_simp
    with_reducible rfl
  rotate_left
  · simp only [Act.put, List.setIfInBounds_toArray, List.set_cons_zero, List.set_cons_succ, i64_w, i32_w]
    rfl
  refine one_ (i := 6) (N := some 9) #[true, true, true, true, true, true, true, false, false, false, false] rfl rfl (by kernel_rfl) (by decide) (fun K hK => ?_)
  refine value_ (w1 := ?_) (v := ?_) (by rfl) rfl ?_ ?_
  rotate_left 2
  · go_simp
    first | done | rfl | (constructor <;> rfl)
  refine hK.out _ _ ⟨(blk_cell (blk_alloc BC _) 0).trans rfl, (blk_cell (blk_alloc HI.box _) 0).trans rfl, (blk_cell (blk_alloc HI.box _) 1).trans rfl, (blk_cell (blk_alloc HI.box _) 2).trans rfl, (blk_cell (blk_alloc BI _) 0).trans rfl, (blk_cell (blk_alloc BI _) 1).trans rfl, (blk_cell (blk_alloc BI _) 2).trans rfl, (blk_cell (blk_alloc BI _) 3).trans rfl⟩ (fun hHeld => ?_)
  clear hK K
  refine norm_ (a' := ?_) ?_ ?_
  rotate_left
  · show Act.put _ (some 9) _ = _
    simp only [Act.put, List.setIfInBounds_toArray, List.set_cons_zero, List.set_cons_succ, i64_w, i32_w]
    rfl
  refine one_ (i := 7) (N := some 10) #[true, true, true, true, true, true, true, true, false, false, false] rfl rfl (by kernel_rfl) (by decide) (fun K hK => ?_)
  have hlt := Kd.N_lt HI.row
  have hgl := blk_lt HI.box
  have hmt := HI.tab.lt
  have hms := HI.slots.lt
  have hb0 := HI.below.size
  refine Kd.N_append_step k39 (w0 := w0) w0.heap.size (by rfl) (.tmp 7) (.tmp 9) 26 39 (.agg #[(.int .i64 0), (.int .i64 0), (.int .i64 0), (.string ⟨#[]⟩)]) 40 rfl Try.underlying26 info39 rfl (by decide) (by omega) v L i [.int .i64 i.f0, .int .i64 i.f1, .int .i64 i.f2, .string i.f3] (fun k => w0.heap.size ≤ k ∧ k ≠ g ∧ k ≠ mt ∧ k ≠ ms) (fun k => False) rfl rfl (k39_mkF _ _ i) (fun _ h => h.elim) ?aF HI.row HI.below HI.below.size ?aL ?_
  (case aF => exact fun k hk => ⟨by omega, by omega, by omega, by omega⟩)
  (case aL => have := HL.out; omega)
  intro v1 w6 N6 HB6 hg6 hat6
  obtain ⟨A6, c6, e6⟩ := Kd.N_slice N6
  generalize (L ++ [i]).length = n6 at e6
  subst e6
  have hnr : ∀ q, (q = g ∨ q = mt ∨ q = ms) → some q ≠ v.ownBlock := fun q hq he => by have := HI.row.1 q he.symm; rcases hq with rfl | rfl | rfl <;> omega
  have j1 := (hg6.block g hgl (hnr g (.inl rfl))).trans HI.box
  have j2 : w6.heap[c]? = _ := (hg6.block c (blk_lt BC) (Kd.N_ne HI.row BC (by decide))).trans BC
  skip
  have j1 := (hg6.block g hgl (hnr g (.inl rfl))).trans HI.box
  have j2 := (hg6.block c (blk_lt BC) (Kd.N_ne HI.row BC (by decide))).trans BC
  have j3 := (hg6.block w.heap.size (blk_lt BI) Hown.out).trans BI
  refine hK.out _ _ ⟨(blk_cell j2 0).trans rfl, (blk_cell j1 0).trans rfl, (blk_cell j1 1).trans rfl, (blk_cell j1 2).trans rfl, (blk_cell j3 0).trans rfl, (blk_cell j3 1).trans rfl, (blk_cell j3 2).trans rfl, (blk_cell j3 3).trans rfl⟩ (fun hHeld => ?_)
  clear hK K
  refine norm_ (a' := ?_) ?_ ?_
  rotate_left
  · show Act.put _ (some 10) _ = _
    simp only [Act.put, List.setIfInBounds_toArray, List.set_cons_zero, List.set_cons_succ, i64_w, i32_w]
    rfl
  refine pure_ (i := 8) (N := some 11) (v := ?_) (a' := ?_) #[true, true, true, true, true, true, true, true, true, false, false] rfl rfl (by kernel_rfl) (fun _ _ _ h => h) (Or.inl ⟨by rfl, ?_⟩) ?_ ?_
  rotate_left
  · intro w'
    go_simp
    with_reducible rfl
  rotate_left
  · simp only [Act.put, List.setIfInBounds_toArray, List.set_cons_zero, List.set_cons_succ, i64_w, i32_w]
    rfl
  refine pure_ (i := 9) (N := some 12) (v := ?_) (a' := ?_) #[true, true, true, true, true, true, true, true, true, true, false] rfl rfl (by kernel_rfl) (fun _ _ _ h => h) (Or.inl ⟨by rfl, ?_⟩) ?_ ?_
  rotate_left
  · intro w'
    go_simp
    with_reducible rfl
  rotate_left
  · simp only [Act.put, List.setIfInBounds_toArray, List.set_cons_zero, List.set_cons_succ, i64_w, i32_w]
    rfl
  refine last_ (i := 10) (N := none) #[true, true, true, true, true, true, true, true, true, true, true] rfl rfl (by kernel_rfl) (by decide) (fun K hK => ?_)
  refine skip_ (by rfl) rfl (w1 := ?_) ?_ ?_
  rotate_left
  · have z1 := blk_frozen j1 0
    have z2 : w6.cell? ⟨g, 0, none⟩ = some v := (blk_cell j1 0).trans rfl
    go_simp
    rfl
  refine hK.out _ _ ?_
  clear hK K
  refine done_ (by kernel_rfl) ?_
  have HE : Aside0 (CS w0 (w6.setCell ⟨g, 0, none⟩ (.slice A6 n6 c6)) g mt ms (.slice A6 n6 c6) (L ++ [i]) T S ∧ CStep w (w6.setCell ⟨g, 0, none⟩ (.slice A6 n6 c6)) g ms v (.slice A6 n6 c6)) := by
    have m1 : Mods (CW g ms v) w2 w6 := (Mods.of_grown hg6).mono (fun k hk => .inl (.inr (.inr hk)))
    have m2 := Mods.of_cell w6 ⟨g, 0, none⟩ (.slice A6 n6 c6)
    have t1 := (Is.mods HI.tab (Mods.of_grown hg6) (fun e => hnr mt (.inr (.inl rfl)) e.symm)).mods m2 (fun e => HI.tab.ne_cells HI.box e.symm)
    have t2 := (Is.mods HI.slots (Mods.of_grown hg6) (fun e => hnr ms (.inr (.inr rfl)) e.symm)).mods m2 (fun e => HI.slots.ne_cells HI.box e.symm)
    refine ⟨⟨⟨m2.under HB6 (Nat.le_refl _) (fun k hk => by rw [hk]; exact HI.lg), blk_put (cs := #[v, .map (some mt), .map (some ms)]) j1 0 (.slice A6 n6 c6) rfl, t1, t2, Kd.N_step N6 (fun k hk _ => m2.block k ‹_› hk.2.1), HI.lg, HI.lt, HI.ls, HI.ne⟩, ⟨(HM.then m1 (fun _ h => .inl h)).then m2 (fun k hk => .inl (.inl hk)), ?_⟩⟩⟩
    rcases hat6 with h | ⟨b, h, hb⟩
    · exact .inl h
    · exact .inr ⟨b, h, by have := Hsz2.out; omega⟩
  clear hat6 hg6 N6 HB6 hnr j1 j2 j3 HM HI BI BC hHeld hlt hgl hmt hms hb0
  go_wp2_with fail
  go_end0
  exact ⟨_, rfl, HE.out⟩
end Go.Proofs.Ythdnaliahdohhaa.H
