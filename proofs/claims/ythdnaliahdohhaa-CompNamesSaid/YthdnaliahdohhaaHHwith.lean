/- term: a term whose variables have other numbers (with, over found.find). -/
import Derived.Test.YthdnaliahdohhaaHHfind
import Derived.Test.YthdnaliahdohhaaHHlit
namespace Go.Proofs.Ythdnaliahdohhaa.H
open Go.RowKit Go.Proofs.YthdnaliahdohhaaW.PrintWords Go.Proofs.YthdnaliahdohhaaW.PrintLast Go.Proofs.YthdnaliahdohhaaW.PrintMore Go.Proofs.Ythdnaliahdohhaa.Map
attribute [local go_sem] max2_int min2_int max_two min_two max_three min_three max_four min_four
set_option linter.unusedVariables false
set_option linter.unusedSimpArgs false
/-- a part's own number, and what has been found -/
def wiN (x : S58) (M : FM) : Int × FM := if x.f0 = 1 then (findA x.f1 M, findM x.f1 M) else (x.f1, M)
mutual
/-- a term whose variables are numbered as they come -/
def wiT : S58 → FM → S58 × FM
  | ⟨k, n, s, l⟩, M => (⟨k, (wiN ⟨k, n, s, l⟩ M).1, s, (wiL l (wiN ⟨k, n, s, l⟩ M).2).1⟩, (wiL l (wiN ⟨k, n, s, l⟩ M).2).2)
def wiL : List S58 → FM → List S58 × FM
  | [], M => ([], M)
  | x :: l, M => ((wiT x M).1 :: (wiL l (wiT x M).2).1, (wiL l (wiT x M).2).2)
end
theorem wiT_eq (x : S58) (M : FM) : wiT x M = (⟨x.f0, (wiN x M).1, x.f2, (wiL x.f3 (wiN x M).2).1⟩, (wiL x.f3 (wiN x M).2).2) := by cases x; rfl
theorem wiL_app : ∀ (l q : List S58) (M : FM), wiL (l ++ q) M = ((wiL l M).1 ++ (wiL q (wiL l M).2).1, (wiL q (wiL l M).2).2)
  | [], _, _ => rfl
  | x :: l, q, M => by simp only [List.cons_append, wiL, wiL_app l q]
theorem wiL_take (l : List S58) (k : Nat) (h : k < l.length) (M : FM) : wiL (l.take (k + 1)) M = ((wiL (l.take k) M).1 ++ [(wiT (rd_T58 l k) (wiL (l.take k) M).2).1], (wiT (rd_T58 l k) (wiL (l.take k) M).2).2) := by
  rw [take_rd l k h, wiL_app]; rfl
theorem wiL_len : ∀ (l : List S58) (M : FM), (wiL l M).1.length = l.length
  | [], _ => rfl
  | x :: l, M => by simp only [wiL, List.length_cons, wiL_len l]
theorem findM_len (n : Int) (M : FM) : (findM n M).length ≤ M.length + 1 := by unfold findM; split <;> simp
theorem wiN_len (x : S58) (M : FM) : (wiN x M).2.length ≤ M.length + 1 := by
  unfold wiN
  split
  · exact findM_len _ _
  · simp
mutual
theorem wiT_szm : ∀ (x : S58) (M : FM), (wiT x M).2.length ≤ M.length + szT x
  | ⟨k, n, s, l⟩, M => by
    have h1 := wiL_szm l (wiN ⟨k, n, s, l⟩ M).2
    have h2 := wiN_len ⟨k, n, s, l⟩ M
    simp only [wiT, szT]
    omega
theorem wiL_szm : ∀ (l : List S58) (M : FM), (wiL l M).2.length ≤ M.length + szL l
  | [], M => by simp [wiL, szL]
  | x :: l, M => by
    have h1 := wiT_szm x M
    have h2 := wiL_szm l (wiT x M).2
    simp only [wiL, szL]
    omega
end
theorem szL_app2 : ∀ a b : List S58, szL (a ++ b) = szL a + szL b
  | [], b => by simp [szL]
  | x :: a, b => by simp only [List.cons_append, szL, szL_app2 a b]; omega
theorem szL_tk1 (l : List S58) (k : Nat) (h : k < l.length) : szL (l.take k) + szT (rd_T58 l k) ≤ szL l := by
  have h1 : szL (l.take (k + 1)) + szL (l.drop (k + 1)) = szL l := by rw [← szL_app2, List.take_append_drop]
  rw [take_rd l k h, szL_app2] at h1
  simp only [szL] at h1
  omega
theorem CStep.blkF {w0 w w1 : World} {g m : Nat} {v v1 : Value} {M : FM} {b t : Nat} {cs : Array Value} (h : CStep w w1 g m v v1) (hI : FS w0 w g m v M) (hb : w.heap[b]? = some (.cells cs t (0, 0))) (h1 : t ≠ 2) (h2 : t ≠ 136) : w1.heap[b]? = some (.cells cs t (0, 0)) := by
  refine h.mods.blk hb ?_
  rintro (rfl | rfl | e)
  · exact blk_ne hb hI.box h2 rfl
  · exact hI.tab.ne_cells hb rfl
  · exact Kd.N_ne hI.row hb (fun e => h1 e.symm) e.symm
/-- where the loop of with stands: the term's block, the finder, the row of parts -/
structure WI (w0 w wr : World) (g m : Nat) (v : Value) (x : S58) (n1 : Int) (u : Value) (l : List S58) (v1 : Value) (M : FM) : Prop where
  b1 : wr.heap[w.heap.size]? = some (.cells #[.int .i64 x.f0, .int .i64 n1, .string x.f2, u] 58 (0, 0))
  b2 : wr.heap[w.heap.size + 1]? = some (.cells #[.int .i64 0, .int .i64 0, .string ⟨#[]⟩, .slice none 0 0] 58 (0, 0))
  fs : FS w0 wr g m v1 M
  st : CStep w wr g m v v1
  row : Kd.N k58 58 wr w.heap.size (fun k => w.heap.size ≤ k ∧ k ≠ w.heap.size ∧ k ≠ w.heap.size + 1 ∧ some k ≠ v1.ownBlock) u l
  gm : g < w.heap.size ∧ m < w.heap.size
theorem WI.step {w0 w wr w1 : World} {g m : Nat} {v : Value} {x : S58} {n1 : Int} {u : Value} {l : List S58} {v1 : Value} {M : FM} (h : WI w0 w wr g m v x n1 u l v1 M) (hb : Below wr.heap.size wr w1) : WI w0 w w1 g m v x n1 u l v1 M :=
  ⟨blk_below h.b1 hb, blk_below h.b2 hb, h.fs.step hb, h.st.trans (CStep.of_below _ _ _ hb), Kd.N_below h.row hb, h.gm⟩
/-- behind a step of the finder -/
theorem WI.find {w0 w wr w1 : World} {g m : Nat} {v : Value} {x : S58} {n1 : Int} {u : Value} {l : List S58} {v1 v2 : Value} {M M2 : FM} (h : WI w0 w wr g m v x n1 u l v1 M) (hf : FS w0 w1 g m v2 M2) (hc : CStep wr w1 g m v1 v2) : WI w0 w w1 g m v x n1 u l v2 M2 := by
  refine ⟨hc.blkF h.fs h.b1 (by decide) (by decide), hc.blkF h.fs h.b2 (by decide) (by decide), hf, h.st.trans hc, ?_, h.gm⟩
  refine Kd.N_mono (Kd.N_step (Kd.N_bound h.row) (fun k hk hl => hc.mods.block k hl ?_)) (fun k hk => ⟨hk.1.1, hk.1.2.1, hk.1.2.2.1, fun e => ?_⟩)
  · rintro (e | e | e)
    · have := h.gm; have := hk.1.1; omega
    · have := h.gm; have := hk.1.1; omega
    · exact hk.1.2.2.2 e.symm
  · rcases hc.at_ with e2 | ⟨b, e2, hb⟩
    · rw [e2] at e; exact hk.1.2.2.2 e
    · rw [e2] at e; injection e with e; have := hk.2; omega
/-- a part more: the row has grown, the term's block holds it -/
theorem WI.push {w0 w wr w1 : World} {g m : Nat} {v : Value} {x : S58} {n1 : Int} {u : Value} {l : List S58} {v1 : Value} {M : FM} (h : WI w0 w wr g m v x n1 u l v1 M) {u1 : Value} {l1 : List S58}
    (hN : Kd.N k58 58 w1 w.heap.size (fun k => w.heap.size ≤ k ∧ k ≠ w.heap.size ∧ k ≠ w.heap.size + 1 ∧ some k ≠ v1.ownBlock) u1 l1) (hg : wr.grownBy w1 u.ownBlock) : WI w0 w (w1.setCell ⟨w.heap.size, 3, none⟩ u1) g m v x n1 u1 l1 v1 M := by
  have m1 := Mods.of_grown hg
  have m2 := Mods.of_cell w1 ⟨w.heap.size, 3, none⟩ u1
  have hs := h.st.mods.size
  have hb := h.fs.below.size
  have k1 := hg.block _ (blk_lt h.b1) (fun e => (h.row.1 _ e.symm).2.1 rfl)
  have k2 := hg.block _ (blk_lt h.b2) (fun e => (h.row.1 _ e.symm).2.2.1 rfl)
  have hw0 : w0.heap.size ≤ w.heap.size := by have := h.fs.lg; have := h.gm; omega
  have f1 : FS w0 w1 g m v1 M := h.fs.mods m1 (fun e => by have h1 := h.row.1 _ e; have := h.gm; omega) (fun e => by have h1 := h.row.1 _ e; have := h.gm; omega) (fun k hk e => (h.row.1 k e).2.2.2 hk.symm) (fun k hk => by have h1 := h.row.1 k hk; omega)
  have hv1 : v1.ownBlock ≠ some w.heap.size := fun e => by
    have := Kd.N_ne h.fs.row h.b1 (by decide)
    exact this e.symm
  have f2 : FS w0 (w1.setCell ⟨w.heap.size, 3, none⟩ u1) g m v1 M := f1.mods m2 (fun e => by have := h.gm; dsimp only at e; omega) (fun e => by have := h.gm; dsimp only at e; omega) (fun k hk e => by dsimp only at e; rw [e] at hk; exact hv1 hk) (fun k hk => by dsimp only at hk; omega)
  refine ⟨blk_put (cs := #[.int .i64 x.f0, .int .i64 n1, .string x.f2, u]) (k1.trans h.b1) 3 u1 rfl, blk_far (p := ⟨w.heap.size, 3, none⟩) (k2.trans h.b2) (by simp only; omega) u1, f2, ⟨?_, h.st.at_⟩, Kd.N_far hN (p := ⟨w.heap.size, 3, none⟩) (fun q hq => hq.2.1) u1, h.gm⟩
  exact (h.st.mods.then m1 (fun k hk => .inr (h.row.1 k hk).1)).then m2 (fun k hk => .inr (by dsimp only at hk; omega))
theorem blk_put4 {w : World} {g : Nat} {t : TypeId} {a0 a1 a2 a3 : Value} (b0 b1 b2 b3 : Value) (h : w.heap[g]? = some (.cells #[a0, a1, a2, a3] t (0, 0))) :
    ((((w.setCell ⟨g, 0, none⟩ b0).setCell ⟨g, 1, none⟩ b1).setCell ⟨g, 2, none⟩ b2).setCell ⟨g, 3, none⟩ b3).heap[g]? = some (.cells #[b0, b1, b2, b3] t (0, 0)) :=
  blk_put (cs := #[b0, b1, b2, a3]) (blk_put (cs := #[b0, b1, a2, a3]) (blk_put (cs := #[b0, a1, a2, a3]) (blk_put h 0 b0 rfl) 1 b1 rfl) 2 b2 rfl) 3 b3 rfl
theorem WI.start1 {w0 w w2 : World} {g m : Nat} {v : Value} {x : S58} {v1 a1 a3 : Value} {M : FM} (n1 : Int) (J1 : w2.heap[w.heap.size]? = some (.cells #[.int .i64 x.f0, a1, .string x.f2, a3] 58 (0, 0))) (J2 : w2.heap[w.heap.size + 1]? = some (.cells #[.int .i64 0, .int .i64 0, .string ⟨#[]⟩, .slice none 0 0] 58 (0, 0)))
    (hF : FS w0 w2 g m v1 M) (hS : CStep w w2 g m v v1) (gm : g < w.heap.size ∧ m < w.heap.size) (hw : w0.heap.size ≤ w.heap.size) : WI w0 w ((w2.setCell ⟨w.heap.size, 1, none⟩ (.int .i64 n1)).setCell ⟨w.heap.size, 3, none⟩ (.slice none 0 0)) g m v x n1 (.slice none 0 0) [] v1 M := by
  have m1 : Mods (fun k => k = w.heap.size) w2 ((w2.setCell ⟨w.heap.size, 1, none⟩ (.int .i64 n1)).setCell ⟨w.heap.size, 3, none⟩ (.slice none 0 0)) := (Mods.of_cell w2 ⟨w.heap.size, 1, none⟩ _).then (Mods.of_cell _ ⟨w.heap.size, 3, none⟩ _) (fun k hk => .inl hk)
  have hv1 : v1.ownBlock ≠ some w.heap.size := fun e => Kd.N_ne hF.row J1 (by decide) e.symm
  refine ⟨blk_put (cs := #[.int .i64 x.f0, .int .i64 n1, .string x.f2, a3]) (blk_put J1 1 (.int .i64 n1) rfl) 3 (.slice none 0 0) rfl, blk_far (p := ⟨w.heap.size, 3, none⟩) (blk_far (p := ⟨w.heap.size, 1, none⟩) J2 (by simp only; omega) _) (by simp only; omega) _, hF.mods m1 (by omega) (by omega) (fun k hk e => hv1 (by rw [hk, e])) (fun k hk => by omega), ⟨hS.mods.then m1 (fun k hk => .inr (by omega)), hS.at_⟩, Kd.N_nil _ _ _ _ _, gm⟩
theorem WI.start2 {w0 w : World} {g m : Nat} {v : Value} {x : S58} {M : FM} (hF : FS w0 w g m v M) : WI w0 w ((w.alloc (.cells #[.int .i64 x.f0, .int .i64 x.f1, .string x.f2, .slice none 0 0] 58)).alloc (.cells #[.int .i64 0, .int .i64 0, .string ⟨#[]⟩, .slice none 0 0] 58)) g m v x x.f1 (.slice none 0 0) [] v M := by
  have b1 := below_alloc (Below.refl w.heap.size w) (.cells #[.int .i64 x.f0, .int .i64 x.f1, .string x.f2, .slice none 0 0] 58)
  have b2 := below_alloc (Below.refl (w.alloc (.cells #[.int .i64 x.f0, .int .i64 x.f1, .string x.f2, .slice none 0 0] 58)).heap.size (w.alloc (.cells #[.int .i64 x.f0, .int .i64 x.f1, .string x.f2, .slice none 0 0] 58))) (.cells #[.int .i64 0, .int .i64 0, .string ⟨#[]⟩, .slice none 0 0] 58)
  refine ⟨blk_alloc (heap_alloc_new _ _) _, ?_, (hF.step b1).step b2, CStep.of_below _ _ _ (below_step b1 b2), Kd.N_nil _ _ _ _ _, blk_lt hF.box, hF.tab.lt⟩
  have := heap_alloc_new (w.alloc (.cells #[.int .i64 x.f0, .int .i64 x.f1, .string x.f2, .slice none 0 0] 58)) (.cells #[.int .i64 0, .int .i64 0, .string ⟨#[]⟩, .slice none 0 0] 58)
  simpa using this
/-- what with hands back -/
def RetW (w0 w : World) (g m : Nat) (v : Value) (r : S58 × FM) (e : Ending) (w' : World) : Prop := ∃ A' c' v', e = .returned (.agg #[.int .i64 r.1.f0, .int .i64 r.1.f1, .string r.1.f2, .slice A' r.1.f3.length c']) ∧ r.1.f3.length ≤ c' ∧ Kd.F k58 w' (fun k => w.heap.size ≤ k ∧ some k ≠ v'.ownBlock) A' r.1.f3.length r.1.f3 ∧ FS w0 w' g m v' r.2 ∧ CStep w w' g m v v'
set_option maxHeartbeats 8000000 in
set_option maxRecDepth 100000 in
theorem with_calls (n : Nat) (hn : n ≤ 1000000) : ∀ (x : S58) (hx : szT x ≤ n) (A : Option Addr) (c : Nat) (w0 w : World) (okx : Nat → Prop) (hC : Kd.F k58 w okx A x.f3.length x.f3) (hc : x.f3.length ≤ c) (g m : Nat) (v : Value) (M : FM) (hok : ∀ k, okx k → k ≠ g ∧ k ≠ m ∧ some k ≠ v.ownBlock) (hI : FS w0 w g m v M) (hl : M.length + szT x ≤ 2000000),
    Calls Try.prog 77 #[.agg #[.int .i64 x.f0, .int .i64 x.f1, .string x.f2, .slice A x.f3.length c], .func (.func 78) #[.pointer (some ⟨g, 0, none⟩)] #[]] w (RetW w0 w g m v (wiT x M)) := by
  induction n with
  | zero => intro x hx; have := szT_eq x; omega
  | succ n ih0 =>
  have ih := ih0 (by omega)
  clear ih0
  intro x hx A c w0 w okx hC hc g m v M hok hI hl
  have HFx := Aside0.mk (Kd.F_mono (Kd.F_bound hC) (ok' := fun k => k ≠ g ∧ k ≠ m ∧ some k ≠ v.ownBlock ∧ k < w.heap.size) (fun k hk => ⟨(hok k hk.1).1, (hok k hk.1).2.1, (hok k hk.1).2.2, hk.2⟩))
  have Hs : Aside0 (szL x.f3 ≤ 1000000) := ⟨by have := szT_eq x; omega⟩
  have Hc := Aside0.mk hc
  have Hx := Aside0.mk (show szL x.f3 ≤ n by have := szT_eq x; omega)
  have Hl := Aside0.mk (show M.length + szL x.f3 + 1 ≤ 2000000 by have := szT_eq x; omega)
  have Hw := Aside0.mk (wiT_eq x M)
  have hlm : x.f3.length ≤ 9223372036854775807 := (Kd.F_now hC).2.1
  have HI := Aside0.mk hI
  have hgm := Aside0.mk (show g < w.heap.size ∧ m < w.heap.size from ⟨blk_lt hI.box, hI.tab.lt⟩)
  clear hx hC hc hl hok hI
  go_enter Try.func77, Try.ntmps77
  by_cases hk : x.f0 = 1
  · have hk1 : (x.f0 == 1) = true := by simpa using hk
    have hN : Aside0 (wiN x M = (findA x.f1 M, findM x.f1 M)) := ⟨by unfold wiN; rw [if_pos hk]⟩
    clear hk
    have b1 := below_alloc (Below.refl w.heap.size w) (.cells #[.int .i64 x.f0, .int .i64 x.f1, .string x.f2, .slice A x.f3.length c] 58)
    have b2 := below_alloc (Below.refl (w.alloc (.cells #[.int .i64 x.f0, .int .i64 x.f1, .string x.f2, .slice A x.f3.length c] 58)).heap.size (w.alloc (.cells #[.int .i64 x.f0, .int .i64 x.f1, .string x.f2, .slice A x.f3.length c] 58))) (.cells #[.int .i64 0, .int .i64 0, .string ⟨#[]⟩, .slice none 0 0] 58)
    have K1 : ((w.alloc (.cells #[.int .i64 x.f0, .int .i64 x.f1, .string x.f2, .slice A x.f3.length c] 58)).alloc (.cells #[.int .i64 0, .int .i64 0, .string ⟨#[]⟩, .slice none 0 0] 58)).heap[w.heap.size]? = some (.cells #[.int .i64 x.f0, .int .i64 x.f1, .string x.f2, .slice A x.f3.length c] 58 (0, 0)) := blk_alloc (heap_alloc_new _ _) _
    have K2 : ((w.alloc (.cells #[.int .i64 x.f0, .int .i64 x.f1, .string x.f2, .slice A x.f3.length c] 58)).alloc (.cells #[.int .i64 0, .int .i64 0, .string ⟨#[]⟩, .slice none 0 0] 58)).heap[w.heap.size + 1]? = some (.cells #[.int .i64 0, .int .i64 0, .string ⟨#[]⟩, .slice none 0 0] 58 (0, 0)) := by
      have := heap_alloc_new (w.alloc (.cells #[.int .i64 x.f0, .int .i64 x.f1, .string x.f2, .slice A x.f3.length c] 58)) (.cells #[.int .i64 0, .int .i64 0, .string ⟨#[]⟩, .slice none 0 0] 58)
      simpa using this
    have HI2 := Aside0.mk ((HI.out.step b1).step b2)
    have HB2 := Aside0.mk (below_step b1 b2)
    replace K1 := Aside0.mk K1
    replace K2 := Aside0.mk K2
    clear b1 b2
    go_wp2_with fail
    generalize (w.alloc (.cells #[.int .i64 x.f0, .int .i64 x.f1, .string x.f2, .slice A x.f3.length c] 58)).alloc (.cells #[.int .i64 0, .int .i64 0, .string ⟨#[]⟩, .slice none 0 0] 58) = w1 at *
    refine (find_calls x.f1 w0 _ g m v M HI2.out (by have := Hl.out; omega)).mono ?_
    rintro e w2 ⟨v1, rfl, hF, hS⟩
    have J1 := hS.blkF HI2.out K1.out (by decide) (by decide)
    have J2 := hS.blkF HI2.out K2.out (by decide) (by decide)
    have d0 := (blk_cell J1 0).trans rfl
    have d1 := (blk_cell J1 1).trans rfl
    have d2 := (blk_cell J1 2).trans rfl
    have d3 := (blk_cell J1 3).trans rfl
    have z1 := blk_frozen J1 1
    have z3 := blk_frozen J1 3
    replace J1 := Aside0.mk J1
    replace J2 := Aside0.mk J2
    replace hF := Aside0.mk hF
    replace hS := Aside0.mk hS
    go_wp2_with fail
    have HW0 : Aside0 (WI w0 w ((w2.setCell ⟨w.heap.size, 1, none⟩ (.int .i64 (findA x.f1 M))).setCell ⟨w.heap.size, 3, none⟩ (.slice none 0 0)) g m v x (wiN x M).1 (.slice none 0 0) [] v1 (wiN x M).2) := ⟨by rw [hN.out]; exact WI.start1 (findA x.f1 M) J1.out J2.out hF.out ((CStep.of_below g m v HB2.out).trans hS.out) hgm.out (by have := HI.out.below.size; exact this)⟩
    clear J1 J2 hF hS d0 d1 d2 d3 z1 z3 K1 K2 HI2 HB2 hN hk1
    generalize ((w2.setCell ⟨w.heap.size, 1, none⟩ (.int .i64 (findA x.f1 M))).setCell ⟨w.heap.size, 3, none⟩ (.slice none 0 0)) = w3 at *
    have HNl : Aside0 ((wiN x M).2.length + szL x.f3 ≤ 2000000) := ⟨by have := Hl.out; have := wiN_len x M; omega⟩
    generalize wiN x M = q0 at *
    go_loopw [21] (fun i wr => ∃ (k : Nat) (u v2 : Value), i = .int .i64 k ∧ Aside0 (k ≤ x.f3.length) ∧ Aside0 (WI w0 w wr g m v x q0.1 u (wiL (x.f3.take k) q0.2).1 v2 (wiL (x.f3.take k) q0.2).2)) (fun i _ => x.f3.length - (intOf i).toNat)
    case atStart => exact ⟨0, _, v1, rfl, ⟨by omega⟩, HW0⟩
    case round =>
      clear HW0
      obtain ⟨k, u, v2, rfl, hk, HW⟩ := hrel
      have HF := Kd.F_step HFx.out (W1 := wr) (fun k hk hl => HW.out.st.mods.block k hl (by rintro (e | e | e); exact hk.1 e; exact hk.2.1 e; exact hk.2.2.1 e.symm))
      replace HF := Kd.F_bound HF
      by_cases hlt : k < x.f3.length
      · have hlt2 : decide ((k : Int) < (x.f3.length : Int)) = true := decide_eq_true (by omega)
        have hlt3 : decide (k < x.f3.length) = true := decide_eq_true hlt
        obtain ⟨ad, B, d, ead, q0_, q1_, q2_, q3_, hd, hB⟩ := at_F HF (k : Int) (by omega) (by omega)
        have hy : Aside0 (szT (rd_T58 x.f3 k) ≤ n) := ⟨Nat.le_trans (szL_rd _ _ hlt) Hx.out⟩
        have Htk := Aside0.mk (wiL_take x.f3 k hlt q0.2)
        have Hll : Aside0 ((wiL (x.f3.take k) q0.2).2.length + szT (rd_T58 x.f3 k) ≤ 2000000) := ⟨by have h1 := wiL_szm (x.f3.take k) q0.2; have h2 := szL_tk1 x.f3 k hlt; have h3 := HNl.out; omega⟩
        have Hll2 : Aside0 ((wiL (x.f3.take k) q0.2).1.length ≤ 1000000) := ⟨by rw [wiL_len, List.length_take]; have := szL_len x.f3; have := Hs.out; omega⟩
        have Hlt := Aside0.mk hlt
        replace hd := Aside0.mk hd
        replace hB := Aside0.mk hB
        subst ead
        clear HF
        generalize wiL (x.f3.take k) q0.2 = pk at *
        generalize rd_T58 x.f3 k = y at *
        simp only [Int.toNat_natCast] at q0_ q1_ q2_ q3_
        obtain ⟨A1, c1, e1⟩ := Kd.N_slice HW.out.row
        subst e1
        have hg4 := Aside0.mk (blk_lt HW.out.b2)
        have hgu : Aside0 (some wr.heap.size ≠ (Value.slice A1 pk.1.length c1).ownBlock) := ⟨fun e => Nat.lt_irrefl _ (Kd.N_lt HW.out.row _ e.symm)⟩
        replace HW := Aside0.mk (HW.out.step (below_alloc (Below.refl wr.heap.size wr) (.cells #[.int .i64 y.f0, .int .i64 y.f1, .string y.f2, .slice B y.f3.length d] 58)))
        replace hB := Aside0.mk (Kd.F_below hB.out (below_alloc (Below.refl wr.heap.size wr) (.cells #[.int .i64 y.f0, .int .i64 y.f1, .string y.f2, .slice B y.f3.length d] 58)))
        have BK3 := Aside0.mk (heap_alloc_new wr (.cells #[.int .i64 y.f0, .int .i64 y.f1, .string y.f2, .slice B y.f3.length d] 58))
        have hg3 : Aside0 (wr.heap.size < (wr.alloc (.cells #[.int .i64 y.f0, .int .i64 y.f1, .string y.f2, .slice B y.f3.length d] 58)).heap.size) := ⟨by simp⟩
        go_wp2_with fail
        clear q0_ q1_ q2_ q3_ hlt2 hlt3
        generalize wr.alloc (.cells #[.int .i64 y.f0, .int .i64 y.f1, .string y.f2, .slice B y.f3.length d] 58) = w3a at *
        obtain ⟨g3, hg3e⟩ : ∃ g3, g3 = wr.heap.size := ⟨_, rfl⟩
        rw [← hg3e] at BK3 hg4 hg3 hgu ⊢
        clear hg3e
        replace BK3 := BK3.out
        replace HW := HW.out
        replace hB := hB.out
        refine start_ (n := 9) (S := (fun w' => w'.cell? ⟨w.heap.size, 0, none⟩ = some (.int .i64 x.f0) ∧ w'.cell? ⟨w.heap.size, 1, none⟩ = some (.int .i64 q0.1) ∧ w'.cell? ⟨w.heap.size, 2, none⟩ = some (.string x.f2) ∧ w'.cell? ⟨w.heap.size, 3, none⟩ = some (.slice A1 pk.1.length c1) ∧ w'.cell? ⟨g3, 0, none⟩ = some (.int .i64 y.f0) ∧ w'.cell? ⟨g3, 1, none⟩ = some (.int .i64 y.f1) ∧ w'.cell? ⟨g3, 2, none⟩ = some (.string y.f2) ∧ w'.cell? ⟨g3, 3, none⟩ = some (.slice B y.f3.length d))) (ds := [8]) #[false, false, false, false, false, false, false, false, false] (by kernel_rfl) rfl rfl ⟨(blk_cell (blk_drew HW.b1) 0).trans rfl, (blk_cell (blk_drew HW.b1) 1).trans rfl, (blk_cell (blk_drew HW.b1) 2).trans rfl, (blk_cell (blk_drew HW.b1) 3).trans rfl, (blk_cell (blk_drew BK3) 0).trans rfl, (blk_cell (blk_drew BK3) 1).trans rfl, (blk_cell (blk_drew BK3) 2).trans rfl, (blk_cell (blk_drew BK3) 3).trans rfl⟩ (fun hHeld => ?_)
        replace HW := HW.step (below_drew (Below.refl _ _))
        replace BK3 := blk_drew BK3
        replace hB := Kd.F_drew hB
        have hg5 : Aside0 (g3 < w3a.drew.heap.size) := hg3
        clear hg3
        generalize w3a.drew = w4 at *
        refine pure_ (i := 0) (N := some 25) (v := ?_) (a' := ?_) #[true, false, false, false, false, false, false, false, false] rfl rfl (by kernel_rfl) (fun _ _ _ h => h) (Or.inl ⟨by rfl, ?_⟩) ?_ ?_
        rotate_left
        · intro w'
          go_simp
          with_reducible rfl
        rotate_left
        · simp only [Act.put, List.setIfInBounds_toArray, List.set_cons_zero, List.set_cons_succ, i64_w, i32_w]
          rfl
        refine take_ (i := 1) (N := some 26) (v := ?_) (a' := ?_) #[true, true, false, false, false, false, false, false, false] rfl rfl (by kernel_rfl) (fun _ _ _ h => h) (Or.inl ⟨by rfl, ?_⟩) hHeld ?_ ?_
        rotate_left
        · rintro w' ⟨s0, s1, s2, s3, s4, s5, s6, s7⟩
          go_simp
          with_reducible rfl
        rotate_left
        · simp only [Act.put, List.setIfInBounds_toArray, List.set_cons_zero, List.set_cons_succ, i64_w, i32_w]
          rfl
        refine take_ (i := 2) (N := some 27) (v := ?_) (a' := ?_) #[true, true, true, false, false, false, false, false, false] rfl rfl (by kernel_rfl) (fun _ _ _ h => h) (Or.inl ⟨by rfl, ?_⟩) hHeld ?_ ?_
        rotate_left
        · rintro w' ⟨s0, s1, s2, s3, s4, s5, s6, s7⟩
          go_simp
          with_reducible rfl
        rotate_left
        · simp only [Act.put, List.setIfInBounds_toArray, List.set_cons_zero, List.set_cons_succ, i64_w, i32_w]
          rfl
        refine pure_ (i := 3) (N := some 28) (v := ?_) (a' := ?_) #[true, true, true, true, false, false, false, false, false] rfl rfl (by kernel_rfl) (fun _ _ _ h => h) (Or.inl ⟨by rfl, ?_⟩) ?_ ?_
        rotate_left
        · intro w'
          go_simp
          with_reducible rfl
        rotate_left
        · simp only [Act.put, List.setIfInBounds_toArray, List.set_cons_zero, List.set_cons_succ, i64_w, i32_w]
          rfl
        refine one_ (i := 4) (N := some 29) #[true, true, true, true, true, false, false, false, false] rfl rfl (by kernel_rfl) (by decide) (fun K hK => ?_)
        refine goes_ Try.func77 (by kernel_rfl) rfl #[.agg #[.int .i64 y.f0, .int .i64 y.f1, .string y.f2, .slice B y.f3.length d], .func (.func 78) #[.pointer (some ⟨g, 0, none⟩)] #[]] (by rfl) rfl rfl (by (try simp only [List.map_toArray, List.map_cons, List.map_nil]); first | done | rfl) ?_
        refine (ih y hy.out B d w0 _ _ hB hd.out g m v2 pk.2 (fun k hk => ⟨hk.1.1, hk.1.2.1, fun e => ?_⟩) HW.fs Hll.out).mono ?_
        · rcases HW.st.at_ with e2 | ⟨b, e2, hb⟩
          · rw [e2] at e; exact hk.1.2.2.1 e
          · rw [e2] at e; injection e with e; have := hk.1.2.2.2; omega
        rintro e w5 ⟨A5, c5, v5, rfl, hc5, hF5, hI5, hS5⟩
        refine ⟨_, rfl, ?_⟩
        have HW5 := HW.find hI5 hS5
        have BK5 := hS5.blkF HW.fs BK3 (by decide) (by decide)
        have hs5 := hS5.mods.size
        clear hI5 hS5 hB
        refine hK.out _ _ ⟨(blk_cell HW5.b1 0).trans rfl, (blk_cell HW5.b1 1).trans rfl, (blk_cell HW5.b1 2).trans rfl, (blk_cell HW5.b1 3).trans rfl, (blk_cell BK5 0).trans rfl, (blk_cell BK5 1).trans rfl, (blk_cell BK5 2).trans rfl, (blk_cell BK5 3).trans rfl⟩ (fun hHeld => ?_)
        clear hK K
        refine norm_ (a' := ?_) ?_ ?_
        rotate_left
        · show Act.put _ (some 29) _ = _
          simp only [Act.put, List.setIfInBounds_toArray, List.set_cons_zero, List.set_cons_succ, i64_w, i32_w]
          rfl
        generalize wiT y pk.2 = t5 at *
        refine one_ (i := 5) (N := some 30) #[true, true, true, true, true, true, false, false, false] rfl rfl (by kernel_rfl) (by decide) (fun K hK => ?_)
        refine value_ (w1 := ?_) (v := ?_) (by rfl) rfl ?_ ?_
        rotate_left 2
        · go_simp
          first | done | rfl | (constructor <;> rfl)
        refine hK.out _ _ ⟨(blk_cell (blk_alloc HW5.b1 _) 0).trans rfl, (blk_cell (blk_alloc HW5.b1 _) 1).trans rfl, (blk_cell (blk_alloc HW5.b1 _) 2).trans rfl, (blk_cell (blk_alloc HW5.b1 _) 3).trans rfl, (blk_cell (blk_alloc BK5 _) 0).trans rfl, (blk_cell (blk_alloc BK5 _) 1).trans rfl, (blk_cell (blk_alloc BK5 _) 2).trans rfl, (blk_cell (blk_alloc BK5 _) 3).trans rfl⟩ (fun hHeld => ?_)
        clear hK K
        refine norm_ (a' := ?_) ?_ ?_
        rotate_left
        · show Act.put _ (some 30) _ = _
          simp only [Act.put, List.setIfInBounds_toArray, List.set_cons_zero, List.set_cons_succ, i64_w, i32_w]
          rfl
        refine one_ (i := 6) (N := some 31) #[true, true, true, true, true, true, true, false, false] rfl rfl (by kernel_rfl) (by decide) (fun K hK => ?_)
        have hlt5 := Kd.N_lt HW5.row
        have hv5 := Kd.N_lt HW5.fs.row
        have hg5_ := hg5.out
        have hg4_ := hg4.out
        refine Kd.N_append_step k58 (w0 := w5) w.heap.size (by rfl) (.tmp 26) (.tmp 30) 56 58 (.agg #[(.int .i64 0), (.int .i64 0), (.string ⟨#[]⟩), (.slice none 0 0)]) 56 rfl Try.underlying56 info58 rfl (by decide) (by omega) (.slice A1 pk.1.length c1) pk.1 t5.1 [.int .i64 t5.1.f0, .int .i64 t5.1.f1, .string t5.1.f2, .slice A5 t5.1.f3.length c5] (fun k => w.heap.size ≤ k ∧ k ≠ w.heap.size ∧ k ≠ w.heap.size + 1 ∧ some k ≠ v5.ownBlock) (fun k => w4.heap.size ≤ k ∧ some k ≠ v5.ownBlock) rfl rfl (k58_mkF _ _ t5.1 hc5 hF5) ?aP ?aF HW5.row ?aB ?aS ?aL ?_
        (case aP => exact fun q hq => ⟨⟨by have := hq.1; omega, by have := hq.1; omega, by have := hq.1; omega, hq.2⟩, fun he => by have h1 := hq.1; have h2 := HW.row.1 q (by rw [he]); have h3 := Kd.N_lt HW.row q (by rw [he]); omega⟩)
        (case aF => exact fun q hq => ⟨by omega, by omega, by omega, fun e => by have := hv5 q e.symm; omega⟩)
        (case aB => exact Below.refl _ _)
        (case aS => omega)
        (case aL => have := Hll2.out; omega)
        intro u6 w6 N6 HB6 hg6 hat6
        have HW6 := HW5.push N6 hg6
        obtain ⟨A6, c6, e6⟩ := Kd.N_slice N6
        generalize (pk.1 ++ [t5.1]).length = n6 at e6
        subst e6
        have j1 := blk_grown HW5.b1 hg6 (fun e => (HW5.row.1 _ e.symm).2.1 rfl)
        have j3 := blk_grown BK5 hg6 (fun e => hgu.out e)
        refine hK.out _ _ ⟨(blk_cell j1 0).trans rfl, (blk_cell j1 1).trans rfl, (blk_cell j1 2).trans rfl, (blk_cell j1 3).trans rfl, (blk_cell j3 0).trans rfl, (blk_cell j3 1).trans rfl, (blk_cell j3 2).trans rfl, (blk_cell j3 3).trans rfl⟩ (fun hHeld => ?_)
        clear hK K
        refine norm_ (a' := ?_) ?_ ?_
        rotate_left
        · show Act.put _ (some 31) _ = _
          simp only [Act.put, List.setIfInBounds_toArray, List.set_cons_zero, List.set_cons_succ, i64_w, i32_w]
          rfl
        refine pure_ (i := 7) (N := some 32) (v := ?_) (a' := ?_) #[true, true, true, true, true, true, true, true, false] rfl rfl (by kernel_rfl) (fun _ _ _ h => h) (Or.inl ⟨by rfl, ?_⟩) ?_ ?_
        rotate_left
        · intro w'
          go_simp
          with_reducible rfl
        rotate_left
        · simp only [Act.put, List.setIfInBounds_toArray, List.set_cons_zero, List.set_cons_succ, i64_w, i32_w]
          rfl
        refine last_ (i := 8) (N := none) #[true, true, true, true, true, true, true, true, true] rfl rfl (by kernel_rfl) (by decide) (fun K hK => ?_)
        refine skip_ (by rfl) rfl (w1 := ?_) ?_ ?_
        rotate_left
        · have z1 := blk_frozen j1 3
          have z2 : w6.cell? ⟨w.heap.size, 3, none⟩ = some (.slice A1 pk.1.length c1) := (blk_cell j1 3).trans rfl
          go_simp
          rfl
        refine hK.out _ _ ?_
        clear hK K
        refine done_ (by kernel_rfl) ?_
        replace HW6 := Aside0.mk HW6
        clear N6 HB6 hg6 hat6 j1 j3 HW HW5 BK3 BK5 hlt5 hv5 hF5 hs5
        generalize w6.setCell ⟨w.heap.size, 3, none⟩ (.slice A6 n6 c6) = w7 at *
        clear hHeld
        go_wp2_with fail
        go_roundw
        case rel => exact ⟨k + 1, _, v5, by go_num, ⟨Hlt.out⟩, ⟨by rw [Htk.out]; exact HW6.out⟩⟩
        case measure => have := Hlt.out; simp [intOf]; omega
      · have hlt2 : decide ((k : Int) < (x.f3.length : Int)) = false := decide_eq_false (by omega)
        have hlt3 : decide (k < x.f3.length) = false := decide_eq_false hlt
        obtain rfl : k = x.f3.length := by have := hk.out; omega
        clear HF
        rw [List.take_length] at HW
        obtain ⟨A1, c1, e1⟩ := Kd.N_slice HW.out.row
        have hlw : (wiL x.f3 q0.2).1.length = (wiL x.f3 q0.2).1.length := rfl
        subst e1
        have d0 := (blk_cell HW.out.b1 0).trans rfl
        have d1 := (blk_cell HW.out.b1 1).trans rfl
        have d2 := (blk_cell HW.out.b1 2).trans rfl
        have d3 := (blk_cell HW.out.b1 3).trans rfl
        have e0 := (blk_cell HW.out.b2 0).trans rfl
        have e1 := (blk_cell HW.out.b2 1).trans rfl
        have e2 := (blk_cell HW.out.b2 2).trans rfl
        have e3 := (blk_cell HW.out.b2 3).trans rfl
        have z0 := blk_frozen HW.out.b2 0
        have z1 := blk_frozen HW.out.b2 1
        have z2 := blk_frozen HW.out.b2 2
        have z3 := blk_frozen HW.out.b2 3
        go_wp2_with fail
        have s1 := blk_put4 (.int .i64 x.f0) (.int .i64 q0.1) (.string x.f2) (.slice A1 (wiL x.f3 q0.2).1.length c1) HW.out.b2
        have sm := mods4 wr (w.heap.size + 1) (.int .i64 x.f0) (.int .i64 q0.1) (.string x.f2) (.slice A1 (wiL x.f3 q0.2).1.length c1)
        refine bodyPost_ret (results_cell_row rfl _ _ (w.heap.size + 1) 58 #[.int .i64 x.f0, .int .i64 q0.1, .string x.f2, .slice A1 (wiL x.f3 q0.2).1.length c1] (0, 0) _ rfl s1 Try.underlying58 rfl (by kernel_rfl)) rfl ?_
        have hgm2 := hgm.out
        have hv2 : v2.ownBlock ≠ some (w.heap.size + 1) := fun e => Kd.N_ne HW.out.fs.row HW.out.b2 (by decide) e.symm
        have hw0 : w0.heap.size ≤ w.heap.size := HI.out.below.size
        have F9 := HW.out.fs.mods sm (by omega) (by omega) (fun k hk e => hv2 (by rw [hk, e])) (fun k hk => by omega)
        have S9 : CStep w _ g m v v2 := ⟨HW.out.st.mods.then sm (fun k hk => .inr (by omega)), HW.out.st.at_⟩
        rw [Hw.out]
        exact ⟨A1, c1, v2, rfl, (Kd.N_reads' HW.out.row).2.1, Kd.F_mono (Kd.F_step (Kd.N_F HW.out.row) (fun q hq hl => sm.block q hl hq.2.2.1)) (fun q hq => ⟨hq.1, hq.2.2.2⟩), F9, S9⟩
  · have hk1 : (x.f0 == 1) = false := by simpa using hk
    have hN : Aside0 (wiN x M = (x.f1, M)) := ⟨by unfold wiN; rw [if_neg hk]⟩
    clear hk
    go_wp2_with fail
    have HW0 : Aside0 (WI w0 w ((w.alloc (.cells #[.int .i64 x.f0, .int .i64 x.f1, .string x.f2, .slice none 0 0] 58)).alloc (.cells #[.int .i64 0, .int .i64 0, .string ⟨#[]⟩, .slice none 0 0] 58)) g m v x (wiN x M).1 (.slice none 0 0) [] v (wiN x M).2) := ⟨by rw [hN.out]; exact WI.start2 HI.out⟩
    clear hN hk1
    generalize ((w.alloc (.cells #[.int .i64 x.f0, .int .i64 x.f1, .string x.f2, .slice none 0 0] 58)).alloc (.cells #[.int .i64 0, .int .i64 0, .string ⟨#[]⟩, .slice none 0 0] 58)) = w3 at *
    obtain ⟨v1, hv1⟩ : ∃ v1, v1 = v := ⟨_, rfl⟩
    replace HW0 : Aside0 (WI w0 w w3 g m v x (wiN x M).1 (.slice none 0 0) [] v1 (wiN x M).2) := ⟨by rw [hv1]; exact HW0.out⟩
    clear hv1
    have HNl : Aside0 ((wiN x M).2.length + szL x.f3 ≤ 2000000) := ⟨by have := Hl.out; have := wiN_len x M; omega⟩
    generalize wiN x M = q0 at *
    go_loopw [21] (fun i wr => ∃ (k : Nat) (u v2 : Value), i = .int .i64 k ∧ Aside0 (k ≤ x.f3.length) ∧ Aside0 (WI w0 w wr g m v x q0.1 u (wiL (x.f3.take k) q0.2).1 v2 (wiL (x.f3.take k) q0.2).2)) (fun i _ => x.f3.length - (intOf i).toNat)
    case atStart => exact ⟨0, _, v1, rfl, ⟨by omega⟩, HW0⟩
    case round =>
      clear HW0
      obtain ⟨k, u, v2, rfl, hk, HW⟩ := hrel
      have HF := Kd.F_step HFx.out (W1 := wr) (fun k hk hl => HW.out.st.mods.block k hl (by rintro (e | e | e); exact hk.1 e; exact hk.2.1 e; exact hk.2.2.1 e.symm))
      replace HF := Kd.F_bound HF
      by_cases hlt : k < x.f3.length
      · have hlt2 : decide ((k : Int) < (x.f3.length : Int)) = true := decide_eq_true (by omega)
        have hlt3 : decide (k < x.f3.length) = true := decide_eq_true hlt
        obtain ⟨ad, B, d, ead, q0_, q1_, q2_, q3_, hd, hB⟩ := at_F HF (k : Int) (by omega) (by omega)
        have hy : Aside0 (szT (rd_T58 x.f3 k) ≤ n) := ⟨Nat.le_trans (szL_rd _ _ hlt) Hx.out⟩
        have Htk := Aside0.mk (wiL_take x.f3 k hlt q0.2)
        have Hll : Aside0 ((wiL (x.f3.take k) q0.2).2.length + szT (rd_T58 x.f3 k) ≤ 2000000) := ⟨by have h1 := wiL_szm (x.f3.take k) q0.2; have h2 := szL_tk1 x.f3 k hlt; have h3 := HNl.out; omega⟩
        have Hll2 : Aside0 ((wiL (x.f3.take k) q0.2).1.length ≤ 1000000) := ⟨by rw [wiL_len, List.length_take]; have := szL_len x.f3; have := Hs.out; omega⟩
        have Hlt := Aside0.mk hlt
        replace hd := Aside0.mk hd
        replace hB := Aside0.mk hB
        subst ead
        clear HF
        generalize wiL (x.f3.take k) q0.2 = pk at *
        generalize rd_T58 x.f3 k = y at *
        simp only [Int.toNat_natCast] at q0_ q1_ q2_ q3_
        obtain ⟨A1, c1, e1⟩ := Kd.N_slice HW.out.row
        subst e1
        have hg4 := Aside0.mk (blk_lt HW.out.b2)
        have hgu : Aside0 (some wr.heap.size ≠ (Value.slice A1 pk.1.length c1).ownBlock) := ⟨fun e => Nat.lt_irrefl _ (Kd.N_lt HW.out.row _ e.symm)⟩
        replace HW := Aside0.mk (HW.out.step (below_alloc (Below.refl wr.heap.size wr) (.cells #[.int .i64 y.f0, .int .i64 y.f1, .string y.f2, .slice B y.f3.length d] 58)))
        replace hB := Aside0.mk (Kd.F_below hB.out (below_alloc (Below.refl wr.heap.size wr) (.cells #[.int .i64 y.f0, .int .i64 y.f1, .string y.f2, .slice B y.f3.length d] 58)))
        have BK3 := Aside0.mk (heap_alloc_new wr (.cells #[.int .i64 y.f0, .int .i64 y.f1, .string y.f2, .slice B y.f3.length d] 58))
        have hg3 : Aside0 (wr.heap.size < (wr.alloc (.cells #[.int .i64 y.f0, .int .i64 y.f1, .string y.f2, .slice B y.f3.length d] 58)).heap.size) := ⟨by simp⟩
        go_wp2_with fail
        clear q0_ q1_ q2_ q3_ hlt2 hlt3
        generalize wr.alloc (.cells #[.int .i64 y.f0, .int .i64 y.f1, .string y.f2, .slice B y.f3.length d] 58) = w3a at *
        obtain ⟨g3, hg3e⟩ : ∃ g3, g3 = wr.heap.size := ⟨_, rfl⟩
        rw [← hg3e] at BK3 hg4 hg3 hgu ⊢
        clear hg3e
        replace BK3 := BK3.out
        replace HW := HW.out
        replace hB := hB.out
        refine start_ (n := 9) (S := (fun w' => w'.cell? ⟨w.heap.size, 0, none⟩ = some (.int .i64 x.f0) ∧ w'.cell? ⟨w.heap.size, 1, none⟩ = some (.int .i64 q0.1) ∧ w'.cell? ⟨w.heap.size, 2, none⟩ = some (.string x.f2) ∧ w'.cell? ⟨w.heap.size, 3, none⟩ = some (.slice A1 pk.1.length c1) ∧ w'.cell? ⟨g3, 0, none⟩ = some (.int .i64 y.f0) ∧ w'.cell? ⟨g3, 1, none⟩ = some (.int .i64 y.f1) ∧ w'.cell? ⟨g3, 2, none⟩ = some (.string y.f2) ∧ w'.cell? ⟨g3, 3, none⟩ = some (.slice B y.f3.length d))) (ds := [8]) #[false, false, false, false, false, false, false, false, false] (by kernel_rfl) rfl rfl ⟨(blk_cell (blk_drew HW.b1) 0).trans rfl, (blk_cell (blk_drew HW.b1) 1).trans rfl, (blk_cell (blk_drew HW.b1) 2).trans rfl, (blk_cell (blk_drew HW.b1) 3).trans rfl, (blk_cell (blk_drew BK3) 0).trans rfl, (blk_cell (blk_drew BK3) 1).trans rfl, (blk_cell (blk_drew BK3) 2).trans rfl, (blk_cell (blk_drew BK3) 3).trans rfl⟩ (fun hHeld => ?_)
        replace HW := HW.step (below_drew (Below.refl _ _))
        replace BK3 := blk_drew BK3
        replace hB := Kd.F_drew hB
        have hg5 : Aside0 (g3 < w3a.drew.heap.size) := hg3
        clear hg3
        generalize w3a.drew = w4 at *
        refine pure_ (i := 0) (N := some 25) (v := ?_) (a' := ?_) #[true, false, false, false, false, false, false, false, false] rfl rfl (by kernel_rfl) (fun _ _ _ h => h) (Or.inl ⟨by rfl, ?_⟩) ?_ ?_
        rotate_left
        · intro w'
          go_simp
          with_reducible rfl
        rotate_left
        · simp only [Act.put, List.setIfInBounds_toArray, List.set_cons_zero, List.set_cons_succ, i64_w, i32_w]
          rfl
        refine take_ (i := 1) (N := some 26) (v := ?_) (a' := ?_) #[true, true, false, false, false, false, false, false, false] rfl rfl (by kernel_rfl) (fun _ _ _ h => h) (Or.inl ⟨by rfl, ?_⟩) hHeld ?_ ?_
        rotate_left
        · rintro w' ⟨s0, s1, s2, s3, s4, s5, s6, s7⟩
          go_simp
          with_reducible rfl
        rotate_left
        · simp only [Act.put, List.setIfInBounds_toArray, List.set_cons_zero, List.set_cons_succ, i64_w, i32_w]
          rfl
        refine take_ (i := 2) (N := some 27) (v := ?_) (a' := ?_) #[true, true, true, false, false, false, false, false, false] rfl rfl (by kernel_rfl) (fun _ _ _ h => h) (Or.inl ⟨by rfl, ?_⟩) hHeld ?_ ?_
        rotate_left
        · rintro w' ⟨s0, s1, s2, s3, s4, s5, s6, s7⟩
          go_simp
          with_reducible rfl
        rotate_left
        · simp only [Act.put, List.setIfInBounds_toArray, List.set_cons_zero, List.set_cons_succ, i64_w, i32_w]
          rfl
        refine pure_ (i := 3) (N := some 28) (v := ?_) (a' := ?_) #[true, true, true, true, false, false, false, false, false] rfl rfl (by kernel_rfl) (fun _ _ _ h => h) (Or.inl ⟨by rfl, ?_⟩) ?_ ?_
        rotate_left
        · intro w'
          go_simp
          with_reducible rfl
        rotate_left
        · simp only [Act.put, List.setIfInBounds_toArray, List.set_cons_zero, List.set_cons_succ, i64_w, i32_w]
          rfl
        refine one_ (i := 4) (N := some 29) #[true, true, true, true, true, false, false, false, false] rfl rfl (by kernel_rfl) (by decide) (fun K hK => ?_)
        refine goes_ Try.func77 (by kernel_rfl) rfl #[.agg #[.int .i64 y.f0, .int .i64 y.f1, .string y.f2, .slice B y.f3.length d], .func (.func 78) #[.pointer (some ⟨g, 0, none⟩)] #[]] (by rfl) rfl rfl (by (try simp only [List.map_toArray, List.map_cons, List.map_nil]); first | done | rfl) ?_
        refine (ih y hy.out B d w0 _ _ hB hd.out g m v2 pk.2 (fun k hk => ⟨hk.1.1, hk.1.2.1, fun e => ?_⟩) HW.fs Hll.out).mono ?_
        · rcases HW.st.at_ with e2 | ⟨b, e2, hb⟩
          · rw [e2] at e; exact hk.1.2.2.1 e
          · rw [e2] at e; injection e with e; have := hk.1.2.2.2; omega
        rintro e w5 ⟨A5, c5, v5, rfl, hc5, hF5, hI5, hS5⟩
        refine ⟨_, rfl, ?_⟩
        have HW5 := HW.find hI5 hS5
        have BK5 := hS5.blkF HW.fs BK3 (by decide) (by decide)
        have hs5 := hS5.mods.size
        clear hI5 hS5 hB
        refine hK.out _ _ ⟨(blk_cell HW5.b1 0).trans rfl, (blk_cell HW5.b1 1).trans rfl, (blk_cell HW5.b1 2).trans rfl, (blk_cell HW5.b1 3).trans rfl, (blk_cell BK5 0).trans rfl, (blk_cell BK5 1).trans rfl, (blk_cell BK5 2).trans rfl, (blk_cell BK5 3).trans rfl⟩ (fun hHeld => ?_)
        clear hK K
        refine norm_ (a' := ?_) ?_ ?_
        rotate_left
        · show Act.put _ (some 29) _ = _
          simp only [Act.put, List.setIfInBounds_toArray, List.set_cons_zero, List.set_cons_succ, i64_w, i32_w]
          rfl
        generalize wiT y pk.2 = t5 at *
        refine one_ (i := 5) (N := some 30) #[true, true, true, true, true, true, false, false, false] rfl rfl (by kernel_rfl) (by decide) (fun K hK => ?_)
        refine value_ (w1 := ?_) (v := ?_) (by rfl) rfl ?_ ?_
        rotate_left 2
        · go_simp
          first | done | rfl | (constructor <;> rfl)
        refine hK.out _ _ ⟨(blk_cell (blk_alloc HW5.b1 _) 0).trans rfl, (blk_cell (blk_alloc HW5.b1 _) 1).trans rfl, (blk_cell (blk_alloc HW5.b1 _) 2).trans rfl, (blk_cell (blk_alloc HW5.b1 _) 3).trans rfl, (blk_cell (blk_alloc BK5 _) 0).trans rfl, (blk_cell (blk_alloc BK5 _) 1).trans rfl, (blk_cell (blk_alloc BK5 _) 2).trans rfl, (blk_cell (blk_alloc BK5 _) 3).trans rfl⟩ (fun hHeld => ?_)
        clear hK K
        refine norm_ (a' := ?_) ?_ ?_
        rotate_left
        · show Act.put _ (some 30) _ = _
          simp only [Act.put, List.setIfInBounds_toArray, List.set_cons_zero, List.set_cons_succ, i64_w, i32_w]
          rfl
        refine one_ (i := 6) (N := some 31) #[true, true, true, true, true, true, true, false, false] rfl rfl (by kernel_rfl) (by decide) (fun K hK => ?_)
        have hlt5 := Kd.N_lt HW5.row
        have hv5 := Kd.N_lt HW5.fs.row
        have hg5_ := hg5.out
        have hg4_ := hg4.out
        refine Kd.N_append_step k58 (w0 := w5) w.heap.size (by rfl) (.tmp 26) (.tmp 30) 56 58 (.agg #[(.int .i64 0), (.int .i64 0), (.string ⟨#[]⟩), (.slice none 0 0)]) 56 rfl Try.underlying56 info58 rfl (by decide) (by omega) (.slice A1 pk.1.length c1) pk.1 t5.1 [.int .i64 t5.1.f0, .int .i64 t5.1.f1, .string t5.1.f2, .slice A5 t5.1.f3.length c5] (fun k => w.heap.size ≤ k ∧ k ≠ w.heap.size ∧ k ≠ w.heap.size + 1 ∧ some k ≠ v5.ownBlock) (fun k => w4.heap.size ≤ k ∧ some k ≠ v5.ownBlock) rfl rfl (k58_mkF _ _ t5.1 hc5 hF5) ?aP ?aF HW5.row ?aB ?aS ?aL ?_
        (case aP => exact fun q hq => ⟨⟨by have := hq.1; omega, by have := hq.1; omega, by have := hq.1; omega, hq.2⟩, fun he => by have h1 := hq.1; have h2 := HW.row.1 q (by rw [he]); have h3 := Kd.N_lt HW.row q (by rw [he]); omega⟩)
        (case aF => exact fun q hq => ⟨by omega, by omega, by omega, fun e => by have := hv5 q e.symm; omega⟩)
        (case aB => exact Below.refl _ _)
        (case aS => omega)
        (case aL => have := Hll2.out; omega)
        intro u6 w6 N6 HB6 hg6 hat6
        have HW6 := HW5.push N6 hg6
        obtain ⟨A6, c6, e6⟩ := Kd.N_slice N6
        generalize (pk.1 ++ [t5.1]).length = n6 at e6
        subst e6
        have j1 := blk_grown HW5.b1 hg6 (fun e => (HW5.row.1 _ e.symm).2.1 rfl)
        have j3 := blk_grown BK5 hg6 (fun e => hgu.out e)
        refine hK.out _ _ ⟨(blk_cell j1 0).trans rfl, (blk_cell j1 1).trans rfl, (blk_cell j1 2).trans rfl, (blk_cell j1 3).trans rfl, (blk_cell j3 0).trans rfl, (blk_cell j3 1).trans rfl, (blk_cell j3 2).trans rfl, (blk_cell j3 3).trans rfl⟩ (fun hHeld => ?_)
        clear hK K
        refine norm_ (a' := ?_) ?_ ?_
        rotate_left
        · show Act.put _ (some 31) _ = _
          simp only [Act.put, List.setIfInBounds_toArray, List.set_cons_zero, List.set_cons_succ, i64_w, i32_w]
          rfl
        refine pure_ (i := 7) (N := some 32) (v := ?_) (a' := ?_) #[true, true, true, true, true, true, true, true, false] rfl rfl (by kernel_rfl) (fun _ _ _ h => h) (Or.inl ⟨by rfl, ?_⟩) ?_ ?_
        rotate_left
        · intro w'
          go_simp
          with_reducible rfl
        rotate_left
        · simp only [Act.put, List.setIfInBounds_toArray, List.set_cons_zero, List.set_cons_succ, i64_w, i32_w]
          rfl
        refine last_ (i := 8) (N := none) #[true, true, true, true, true, true, true, true, true] rfl rfl (by kernel_rfl) (by decide) (fun K hK => ?_)
        refine skip_ (by rfl) rfl (w1 := ?_) ?_ ?_
        rotate_left
        · have z1 := blk_frozen j1 3
          have z2 : w6.cell? ⟨w.heap.size, 3, none⟩ = some (.slice A1 pk.1.length c1) := (blk_cell j1 3).trans rfl
          go_simp
          rfl
        refine hK.out _ _ ?_
        clear hK K
        refine done_ (by kernel_rfl) ?_
        replace HW6 := Aside0.mk HW6
        clear N6 HB6 hg6 hat6 j1 j3 HW HW5 BK3 BK5 hlt5 hv5 hF5 hs5
        generalize w6.setCell ⟨w.heap.size, 3, none⟩ (.slice A6 n6 c6) = w7 at *
        clear hHeld
        go_wp2_with fail
        go_roundw
        case rel => exact ⟨k + 1, _, v5, by go_num, ⟨Hlt.out⟩, ⟨by rw [Htk.out]; exact HW6.out⟩⟩
        case measure => have := Hlt.out; simp [intOf]; omega
      · have hlt2 : decide ((k : Int) < (x.f3.length : Int)) = false := decide_eq_false (by omega)
        have hlt3 : decide (k < x.f3.length) = false := decide_eq_false hlt
        obtain rfl : k = x.f3.length := by have := hk.out; omega
        clear HF
        rw [List.take_length] at HW
        obtain ⟨A1, c1, e1⟩ := Kd.N_slice HW.out.row
        have hlw : (wiL x.f3 q0.2).1.length = (wiL x.f3 q0.2).1.length := rfl
        subst e1
        have d0 := (blk_cell HW.out.b1 0).trans rfl
        have d1 := (blk_cell HW.out.b1 1).trans rfl
        have d2 := (blk_cell HW.out.b1 2).trans rfl
        have d3 := (blk_cell HW.out.b1 3).trans rfl
        have e0 := (blk_cell HW.out.b2 0).trans rfl
        have e1 := (blk_cell HW.out.b2 1).trans rfl
        have e2 := (blk_cell HW.out.b2 2).trans rfl
        have e3 := (blk_cell HW.out.b2 3).trans rfl
        have z0 := blk_frozen HW.out.b2 0
        have z1 := blk_frozen HW.out.b2 1
        have z2 := blk_frozen HW.out.b2 2
        have z3 := blk_frozen HW.out.b2 3
        go_wp2_with fail
        have s1 := blk_put4 (.int .i64 x.f0) (.int .i64 q0.1) (.string x.f2) (.slice A1 (wiL x.f3 q0.2).1.length c1) HW.out.b2
        have sm := mods4 wr (w.heap.size + 1) (.int .i64 x.f0) (.int .i64 q0.1) (.string x.f2) (.slice A1 (wiL x.f3 q0.2).1.length c1)
        refine bodyPost_ret (results_cell_row rfl _ _ (w.heap.size + 1) 58 #[.int .i64 x.f0, .int .i64 q0.1, .string x.f2, .slice A1 (wiL x.f3 q0.2).1.length c1] (0, 0) _ rfl s1 Try.underlying58 rfl (by kernel_rfl)) rfl ?_
        have hgm2 := hgm.out
        have hv2 : v2.ownBlock ≠ some (w.heap.size + 1) := fun e => Kd.N_ne HW.out.fs.row HW.out.b2 (by decide) e.symm
        have hw0 : w0.heap.size ≤ w.heap.size := HI.out.below.size
        have F9 := HW.out.fs.mods sm (by omega) (by omega) (fun k hk e => hv2 (by rw [hk, e])) (fun k hk => by omega)
        have S9 : CStep w _ g m v v2 := ⟨HW.out.st.mods.then sm (fun k hk => .inr (by omega)), HW.out.st.at_⟩
        rw [Hw.out]
        exact ⟨A1, c1, v2, rfl, (Kd.N_reads' HW.out.row).2.1, Kd.F_mono (Kd.F_step (Kd.N_F HW.out.row) (fun q hq hl => sm.block q hl hq.2.2.1)) (fun q hq => ⟨hq.1, hq.2.2.2⟩), F9, S9⟩
end Go.Proofs.Ythdnaliahdohhaa.H
