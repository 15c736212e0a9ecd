/- Layer 19's example (alive). -/
import Derived.Test.YthdnaliahdohhaaHHgood
import Derived.Test.YthdnaliahdohhaaHHcompile
import Derived.Test.YthdnaliahdohhaaHHpureCode1
namespace Go.Proofs.Ythdnaliahdohhaa.H
open Go.RowKit Go.Proofs.YthdnaliahdohhaaW.PrintWords Go.Proofs.YthdnaliahdohhaaW.PrintLast Go.Proofs.YthdnaliahdohhaaW.PrintMore Go.Proofs.Ythdnaliahdohhaa.Map
attribute [local go_sem] max2_int min2_int max_two min_two max_three min_three max_four min_four
set_option linter.unusedVariables false
set_option linter.unusedSimpArgs false
def vT (n : Int) : S58 := ⟨1, n, ⟨#[]⟩, []⟩
def tP : S58 := ⟨4, 0, ⟨#[112]⟩, [vT 3, vT 5]⟩
def tQ : S58 := ⟨4, 0, ⟨#[113]⟩, [vT 3]⟩
def codeW : Cd := ⟨⟨#[112]⟩, 2, 1, 2, [⟨2, 0, 0, ⟨#[]⟩⟩, ⟨1, 0, 0, ⟨#[]⟩⟩, ⟨6, 1, 0, ⟨#[113]⟩⟩, ⟨3, 0, 0, ⟨#[]⟩⟩]⟩
theorem comp_W : compR tP tQ = (codeW, 0) := by kernel_rfl
theorem R_89 {w w' : World} {v : Value} {l : List S89} (h : Kd.R k89 89 w' w.heap.size (fun _ => True) v l) : ∃ A c, v = .slice A l.length c ∧ l.length ≤ c ∧ Kd.C k89 w' A l.length l := by
  have h1 := Kd.R_N (Kd.R_mono (Kd.R_bound h) (ok' := fun k => w.heap.size ≤ k) (fun k hk => hk.2.1))
  obtain ⟨A, c, rfl⟩ := Kd.N_slice h1
  exact ⟨A, c, rfl, (Kd.N_reads' h1).2.1, Kd.F_now (Kd.N_F h1)⟩
/-- From of a code -/
theorem from_calls (r : Cd) (hl : r.l.length ≤ 1000000) (A : Option Addr) (c : Nat) (w : World) (hC : Kd.C k39 w A r.l.length r.l) (hc : r.l.length ≤ c) :
    Calls Try.prog 22 #[.agg #[.string r.nm, .int .i64 r.ar, .int .i64 r.sl, .int .i64 r.bd, .slice A r.l.length c]] w fun e w' => ∃ A' c', e = .returned (.agg #[.string r.nm, .int .i64 r.ar, .int .i64 r.sl, .int .i64 r.bd, .slice A' (r.l.map vnoc).length c']) ∧ (r.l.map vnoc).length ≤ c' ∧ Kd.C k89 w' A' (r.l.map vnoc).length (r.l.map vnoc) ∧ Below w.heap.size w w' := by
  obtain ⟨k, hk⟩ := From_ev r.nm r.ar r.sl r.bd r.l hl
  refine (prolixlaw18_From.calls k r.nm r.ar r.sl r.bd A c r.l _ _ _ _ _ w hC hc (hk k (Nat.le_refl _))).mono ?_
  rintro e w' ⟨v, rfl, hR, hb⟩
  obtain ⟨A', c', rfl, h1, h2⟩ := R_89 hR
  exact ⟨A', c', rfl, h1, h2, hb⟩
theorem same18_calls (n : ByteArray) (a s b : Int) (l : List S89) (hl : l.length ≤ 1000000) (A B : Option Addr) (c d : Nat) (w : World) (hA : Kd.C k89 w A l.length l) (hc : l.length ≤ c) (hB : Kd.C k89 w B l.length l) (hd : l.length ≤ d) :
    Calls Try.prog 21 #[.agg #[.string n, .int .i64 a, .int .i64 s, .int .i64 b, .slice A l.length c], .agg #[.string n, .int .i64 a, .int .i64 s, .int .i64 b, .slice B l.length d]] w fun e w' => e = .returned (.bool true) ∧ Below w.heap.size w w' := by
  obtain ⟨k, hk⟩ := Same_ev n a s b l hl
  exact prolixref18_Same.calls k n a s b A c l n a s b B d l true w hA hc hB hd (hk k (Nat.le_refl _))
/-- the wanted code's row -/
theorem want_row {w : World} {g : Nat} (h : w.heap[g]? = some (.cells #[.int .i64 2, .int .i64 0, .int .i64 0, .string ⟨#[]⟩, .int .i64 1, .int .i64 0, .int .i64 0, .string ⟨#[]⟩, .int .i64 6, .int .i64 1, .int .i64 0, .string ⟨#[113]⟩, .int .i64 3, .int .i64 0, .int .i64 0, .string ⟨#[]⟩] 89 (0, 0))) : Kd.C k89 w (some ⟨g, 0, none⟩) 4 (codeW.l.map vnoc) := by
  refine ⟨rfl, by decide, fun _ => ⟨_, rfl, fun j p hj => ?_⟩⟩
  have hj2 : j = 0 ∨ j = 1 ∨ j = 2 ∨ j = 3 := by have := (List.getElem?_eq_some_iff.1 hj).1; simp [codeW] at this; omega
  obtain rfl | rfl | rfl | rfl := hj2
  all_goals
    simp [codeW, vnoc] at hj
    subst hj
    refine ⟨_, rfl, k89_mk w _, fun i u hu => ?_⟩
    rw [add_at]
    have hi : i < 4 := by have := (List.getElem?_eq_some_iff.1 hu).1; simpa using this
    refine (blk_cell h _).trans ?_
    obtain rfl | rfl | rfl | rfl : i = 0 ∨ i = 1 ∨ i = 2 ∨ i = 3 := by omega
    all_goals (simp at hu; subst hu; rfl)
set_option maxHeartbeats 8000000 in
set_option maxRecDepth 100000 in
theorem alive19_calls (w : World) : Calls Try.prog 37 #[] w fun e w' => e = .returned (.bool true) ∧ Below w.heap.size w w' := by
  have HB := Below.refl w.heap.size w
  go_enter Try.func37, Try.ntmps37
  replace HB := Aside0.mk HB
  go_wp2_with fail
  replace HB := HB.out
  refine (v19_calls 3 _).mono ?_
  rintro e w1 ⟨rfl, hb⟩
  replace HB := below_step HB hb
  clear hb
  replace HB := Aside0.mk HB
  go_wp2_with fail
  replace HB := HB.out
  refine (v19_calls 5 _).mono ?_
  rintro e w2 ⟨rfl, hb⟩
  replace HB := below_step HB hb
  clear hb
  replace HB := Aside0.mk HB
  go_wp2_with fail
  replace HB := HB.out
  have hal : Below w2.heap.size w2 (w2.alloc (.cells #[.int .i64 1, .int .i64 3, .string ⟨#[]⟩, .slice none 0 0, .int .i64 1, .int .i64 5, .string ⟨#[]⟩, .slice none 0 0] 58)) := below_alloc (Below.refl _ _) (.cells #[.int .i64 1, .int .i64 3, .string ⟨#[]⟩, .slice none 0 0, .int .i64 1, .int .i64 5, .string ⟨#[]⟩, .slice none 0 0] 58)
  replace HB := below_step HB hal
  have B_L1 := heap_alloc_new w2 (.cells #[.int .i64 1, .int .i64 3, .string ⟨#[]⟩, .slice none 0 0, .int .i64 1, .int .i64 5, .string ⟨#[]⟩, .slice none 0 0] 58)
  have hz : w2.heap.size = w2.heap.size + 0 := by rfl
  skip
  clear hz
  clear hal
  refine (f19_calls _ _ _ _ _).mono ?_
  rintro e w3 ⟨rfl, hb⟩
  replace HB := below_step HB hb
  replace B_L1 := blk_below B_L1 hb
  have F_1 := lit2 (x := vT 3) (y := vT 5) (ok := fun _ => False) B_L1 (Nat.le_refl 0) (Kd.F_nil _ _ _) (Nat.le_refl 0) (Kd.F_nil _ _ _)
  clear B_L1
  clear hb
  replace HB := Aside0.mk HB
  replace F_1 := Aside0.mk F_1
  go_wp2_with fail
  replace HB := HB.out
  replace F_1 := F_1.out
  refine (v19_calls 3 _).mono ?_
  rintro e w4 ⟨rfl, hb⟩
  replace HB := below_step HB hb
  replace F_1 := Kd.F_below F_1 hb
  clear hb
  replace HB := Aside0.mk HB
  replace F_1 := Aside0.mk F_1
  go_wp2_with fail
  replace HB := HB.out
  replace F_1 := F_1.out
  have hal : Below w4.heap.size w4 (w4.alloc (.cells #[.int .i64 1, .int .i64 3, .string ⟨#[]⟩, .slice none 0 0] 58)) := below_alloc (Below.refl _ _) (.cells #[.int .i64 1, .int .i64 3, .string ⟨#[]⟩, .slice none 0 0] 58)
  replace HB := below_step HB hal
  replace F_1 := Kd.F_below F_1 hal
  have B_L2 := heap_alloc_new w4 (.cells #[.int .i64 1, .int .i64 3, .string ⟨#[]⟩, .slice none 0 0] 58)
  have hz : w4.heap.size = w4.heap.size + 0 := by rfl
  skip
  clear hz
  clear hal
  refine (f19_calls _ _ _ _ _).mono ?_
  rintro e w5 ⟨rfl, hb⟩
  replace HB := below_step HB hb
  replace B_L2 := blk_below B_L2 hb
  replace F_1 := Kd.F_below F_1 hb
  have F_2 := lit1 (x := vT 3) (ok := fun _ => False) B_L2 (Nat.le_refl 0) (Kd.F_nil _ _ _)
  clear B_L2
  clear hb
  replace HB := Aside0.mk HB
  replace F_1 := Aside0.mk F_1
  replace F_2 := Aside0.mk F_2
  go_wp2_with fail
  replace HB := HB.out
  replace F_1 := F_1.out
  replace F_2 := F_2.out
  refine (compile_calls tP tQ (by decide) (by decide) (some ⟨w2.heap.size, 0, none⟩) (some ⟨w4.heap.size, 0, none⟩) 2 1 _ (Kd.F_now F_1) (Kd.F_now F_2)).mono ?_
  rw [comp_W]
  rintro e x1 ⟨A, c, rfl, hc, F_c, hb⟩
  replace HB := below_step HB hb
  clear hb F_1 F_2
  replace hc := Aside0.mk hc
  replace HB := Aside0.mk HB
  replace F_c := Aside0.mk F_c
  go_wp2_with fail
  replace HB := HB.out
  replace F_c := F_c.out
  have hal := below_alloc (below_alloc (below_alloc (Below.refl x1.heap.size x1) (.cells #[.string codeW.nm, .int .i64 codeW.ar, .int .i64 codeW.sl, .int .i64 codeW.bd, .slice A codeW.l.length c] 28)) (.cells #[.int .i64 2, .int .i64 0, .int .i64 0, .string ⟨#[]⟩, .int .i64 1, .int .i64 0, .int .i64 0, .string ⟨#[]⟩, .int .i64 6, .int .i64 1, .int .i64 0, .string ⟨#[113]⟩, .int .i64 3, .int .i64 0, .int .i64 0, .string ⟨#[]⟩] 89)) (.cells #[.string ⟨#[112]⟩, .int .i64 2, .int .i64 1, .int .i64 2, .slice (some ⟨x1.heap.size + 1, 0, none⟩) 4 4] 24)
  replace HB := below_step HB hal
  replace F_c := Kd.F_below F_c hal
  clear hal
  have B_c := blk_alloc (blk_alloc (heap_alloc_new x1 (.cells #[.string codeW.nm, .int .i64 codeW.ar, .int .i64 codeW.sl, .int .i64 codeW.bd, .slice A codeW.l.length c] 28)) (.cells #[.int .i64 2, .int .i64 0, .int .i64 0, .string ⟨#[]⟩, .int .i64 1, .int .i64 0, .int .i64 0, .string ⟨#[]⟩, .int .i64 6, .int .i64 1, .int .i64 0, .string ⟨#[113]⟩, .int .i64 3, .int .i64 0, .int .i64 0, .string ⟨#[]⟩] 89)) (.cells #[.string ⟨#[112]⟩, .int .i64 2, .int .i64 1, .int .i64 2, .slice (some ⟨x1.heap.size + 1, 0, none⟩) 4 4] 24)
  have B_r := blk_alloc (heap_alloc_new (x1.alloc (.cells #[.string codeW.nm, .int .i64 codeW.ar, .int .i64 codeW.sl, .int .i64 codeW.bd, .slice A codeW.l.length c] 28)) (.cells #[.int .i64 2, .int .i64 0, .int .i64 0, .string ⟨#[]⟩, .int .i64 1, .int .i64 0, .int .i64 0, .string ⟨#[]⟩, .int .i64 6, .int .i64 1, .int .i64 0, .string ⟨#[113]⟩, .int .i64 3, .int .i64 0, .int .i64 0, .string ⟨#[]⟩] 89)) (.cells #[.string ⟨#[112]⟩, .int .i64 2, .int .i64 1, .int .i64 2, .slice (some ⟨x1.heap.size + 1, 0, none⟩) 4 4] 24)
  have B_n := heap_alloc_new ((x1.alloc (.cells #[.string codeW.nm, .int .i64 codeW.ar, .int .i64 codeW.sl, .int .i64 codeW.bd, .slice A codeW.l.length c] 28)).alloc (.cells #[.int .i64 2, .int .i64 0, .int .i64 0, .string ⟨#[]⟩, .int .i64 1, .int .i64 0, .int .i64 0, .string ⟨#[]⟩, .int .i64 6, .int .i64 1, .int .i64 0, .string ⟨#[113]⟩, .int .i64 3, .int .i64 0, .int .i64 0, .string ⟨#[]⟩] 89)) (.cells #[.string ⟨#[112]⟩, .int .i64 2, .int .i64 1, .int .i64 2, .slice (some ⟨x1.heap.size + 1, 0, none⟩) 4 4] 24)
  rw [show (x1.alloc (.cells #[.string codeW.nm, .int .i64 codeW.ar, .int .i64 codeW.sl, .int .i64 codeW.bd, .slice A codeW.l.length c] 28)).heap.size = x1.heap.size + 1 by simp] at B_r
  rw [show ((x1.alloc (.cells #[.string codeW.nm, .int .i64 codeW.ar, .int .i64 codeW.sl, .int .i64 codeW.bd, .slice A codeW.l.length c] 28)).alloc (.cells #[.int .i64 2, .int .i64 0, .int .i64 0, .string ⟨#[]⟩, .int .i64 1, .int .i64 0, .int .i64 0, .string ⟨#[]⟩, .int .i64 6, .int .i64 1, .int .i64 0, .string ⟨#[113]⟩, .int .i64 3, .int .i64 0, .int .i64 0, .string ⟨#[]⟩] 89)).heap.size = x1.heap.size + 2 by simp] at B_n
  generalize (((x1.alloc (.cells #[.string codeW.nm, .int .i64 codeW.ar, .int .i64 codeW.sl, .int .i64 codeW.bd, .slice A codeW.l.length c] 28)).alloc (.cells #[.int .i64 2, .int .i64 0, .int .i64 0, .string ⟨#[]⟩, .int .i64 1, .int .i64 0, .int .i64 0, .string ⟨#[]⟩, .int .i64 6, .int .i64 1, .int .i64 0, .string ⟨#[113]⟩, .int .i64 3, .int .i64 0, .int .i64 0, .string ⟨#[]⟩] 89)).alloc (.cells #[.string ⟨#[112]⟩, .int .i64 2, .int .i64 1, .int .i64 2, .slice (some ⟨x1.heap.size + 1, 0, none⟩) 4 4] 24)) = y0 at *
  refine start_ (n := 9) (S := fun w' => w'.cell? ⟨x1.heap.size, 0, none⟩ = some (.string codeW.nm) ∧ w'.cell? ⟨x1.heap.size, 1, none⟩ = some (.int .i64 codeW.ar) ∧ w'.cell? ⟨x1.heap.size, 2, none⟩ = some (.int .i64 codeW.sl) ∧ w'.cell? ⟨x1.heap.size, 3, none⟩ = some (.int .i64 codeW.bd) ∧ w'.cell? ⟨x1.heap.size, 4, none⟩ = some (.slice A codeW.l.length c) ∧ w'.cell? ⟨(x1.heap.size + 2), 0, none⟩ = some (.string ⟨#[112]⟩) ∧ w'.cell? ⟨(x1.heap.size + 2), 1, none⟩ = some (.int .i64 2) ∧ w'.cell? ⟨(x1.heap.size + 2), 2, none⟩ = some (.int .i64 1) ∧ w'.cell? ⟨(x1.heap.size + 2), 3, none⟩ = some (.int .i64 2) ∧ w'.cell? ⟨(x1.heap.size + 2), 4, none⟩ = some (.slice (some ⟨x1.heap.size + 1, 0, none⟩) 4 4)) (ds := []) #[false, false, false, false, false, false, false, false, false] (by kernel_rfl) rfl rfl ⟨(blk_cell (blk_drew B_c) 0).trans rfl, (blk_cell (blk_drew B_c) 1).trans rfl, (blk_cell (blk_drew B_c) 2).trans rfl, (blk_cell (blk_drew B_c) 3).trans rfl, (blk_cell (blk_drew B_c) 4).trans rfl, (blk_cell (blk_drew B_n) 0).trans rfl, (blk_cell (blk_drew B_n) 1).trans rfl, (blk_cell (blk_drew B_n) 2).trans rfl, (blk_cell (blk_drew B_n) 3).trans rfl, (blk_cell (blk_drew B_n) 4).trans rfl⟩ (fun hHeld => ?_)
  replace B_c := blk_drew B_c
  replace B_n := blk_drew B_n
  replace B_r := blk_drew B_r
  replace HB := HB.drew
  replace F_c := Kd.F_drew F_c
  generalize y0.drew = z0 at *
  refine pure_ (i := 0) (N := some 21) (v := ?_) (a' := ?_) #[true, false, false, false, false, false, false, false, false] rfl rfl (by kernel_rfl) (fun _ _ _ h => h) (Or.inl ⟨by rfl, ?_⟩) ?_ ?_
  rotate_left
  · intro w'
    go_simp
    with_reducible rfl
  rotate_left
  · simp only [Act.put, List.setIfInBounds_toArray, List.set_cons_zero, List.set_cons_succ, i64_w, i32_w]
    rfl
  refine pure_ (i := 1) (N := some 22) (v := ?_) (a' := ?_) #[true, true, false, false, false, false, false, false, false] rfl rfl (by kernel_rfl) (fun _ _ _ h => h) (Or.inl ⟨by rfl, ?_⟩) ?_ ?_
  rotate_left
  · intro w'
    go_simp
    with_reducible rfl
  rotate_left
  · simp only [Act.put, List.setIfInBounds_toArray, List.set_cons_zero, List.set_cons_succ, i64_w, i32_w]
    rfl
  refine pure_ (i := 2) (N := some 23) (v := ?_) (a' := ?_) #[true, true, true, false, false, false, false, false, false] rfl rfl (by kernel_rfl) (fun _ _ _ h => h) (Or.inl ⟨by rfl, ?_⟩) ?_ ?_
  rotate_left
  · intro w'
    go_simp
    with_reducible rfl
  rotate_left
  · simp only [Act.put, List.setIfInBounds_toArray, List.set_cons_zero, List.set_cons_succ, i64_w, i32_w]
    rfl
  refine take_ (i := 3) (N := some 24) (v := ?_) (a' := ?_) #[true, true, true, true, false, false, false, false, false] rfl rfl (by kernel_rfl) (fun _ _ _ h => h) (Or.inl ⟨by rfl, ?_⟩) hHeld ?_ ?_
  rotate_left
  · rintro w' ⟨s0, s1, s2, s3, s4, s5, s6, s7, s8, s9⟩
    go_simp
    with_reducible rfl
  rotate_left
  · simp only [Act.put, List.setIfInBounds_toArray, List.set_cons_zero, List.set_cons_succ, i64_w, i32_w]
    rfl
  refine take_ (i := 5) (N := some 26) (v := ?_) (a' := ?_) #[true, true, true, true, false, true, false, false, false] rfl rfl (by kernel_rfl) (fun _ _ _ h => h) (Or.inl ⟨by rfl, ?_⟩) hHeld ?_ ?_
  rotate_left
  · rintro w' ⟨s0, s1, s2, s3, s4, s5, s6, s7, s8, s9⟩
    go_simp
    with_reducible rfl
  rotate_left
  · simp only [Act.put, List.setIfInBounds_toArray, List.set_cons_zero, List.set_cons_succ, i64_w, i32_w]
    rfl
  refine one_ (i := 4) (N := some 25) #[true, true, true, true, true, true, false, false, false] rfl rfl (by kernel_rfl) (by decide) (fun K hK => ?_)
  refine goes_ Try.func22 (by kernel_rfl) rfl #[.agg #[.string codeW.nm, .int .i64 codeW.ar, .int .i64 codeW.sl, .int .i64 codeW.bd, .slice A codeW.l.length c]] (by rfl) rfl rfl (by (try simp only [List.map_toArray, List.map_cons, List.map_nil]); first | done | rfl) ?_
  refine (from_calls codeW (by decide) A c _ (Kd.F_now F_c) hc.out).mono ?_
  rintro e z1 ⟨A2, c2, rfl, hc2, hC2, hb⟩
  refine ⟨_, rfl, ?_⟩
  replace HB := below_step HB hb
  replace B_c := blk_below B_c hb
  replace B_n := blk_below B_n hb
  replace B_r := blk_below B_r hb
  replace F_c := Kd.F_below F_c hb
  clear hb
  refine hK.out _ _ ⟨(blk_cell B_c 0).trans rfl, (blk_cell B_c 1).trans rfl, (blk_cell B_c 2).trans rfl, (blk_cell B_c 3).trans rfl, (blk_cell B_c 4).trans rfl, (blk_cell B_n 0).trans rfl, (blk_cell B_n 1).trans rfl, (blk_cell B_n 2).trans rfl, (blk_cell B_n 3).trans rfl, (blk_cell B_n 4).trans rfl⟩ (fun hHeld => ?_)
  clear hK K
  refine norm_ (a' := ?_) ?_ ?_
  rotate_left
  · show Act.put _ (some 25) _ = _
    simp only [Act.put, List.setIfInBounds_toArray, List.set_cons_zero, List.set_cons_succ, i64_w, i32_w]
    rfl
  clear F_c
  refine one_ (i := 6) (N := some 27) #[true, true, true, true, true, true, true, false, false] rfl rfl (by kernel_rfl) (by decide) (fun K hK => ?_)
  refine goes_ Try.func21 (by kernel_rfl) rfl #[.agg #[.string codeW.nm, .int .i64 codeW.ar, .int .i64 codeW.sl, .int .i64 codeW.bd, .slice A2 (codeW.l.map vnoc).length c2], .agg #[.string ⟨#[112]⟩, .int .i64 2, .int .i64 1, .int .i64 2, .slice (some ⟨x1.heap.size + 1, 0, none⟩) 4 4]] (by rfl) rfl rfl (by (try simp only [List.map_toArray, List.map_cons, List.map_nil]); first | done | rfl) ?_
  refine (same18_calls codeW.nm codeW.ar codeW.sl codeW.bd (codeW.l.map vnoc) (by decide) A2 (some ⟨x1.heap.size + 1, 0, none⟩) c2 4 _ hC2 hc2 (want_row B_r) (Nat.le_refl 4)).mono ?_
  rintro e z2 ⟨rfl, hb⟩
  refine ⟨_, rfl, ?_⟩
  replace HB := below_step HB hb
  replace B_c := blk_below B_c hb
  replace B_n := blk_below B_n hb
  replace B_r := blk_below B_r hb
  clear hb
  refine hK.out _ _ ⟨(blk_cell B_c 0).trans rfl, (blk_cell B_c 1).trans rfl, (blk_cell B_c 2).trans rfl, (blk_cell B_c 3).trans rfl, (blk_cell B_c 4).trans rfl, (blk_cell B_n 0).trans rfl, (blk_cell B_n 1).trans rfl, (blk_cell B_n 2).trans rfl, (blk_cell B_n 3).trans rfl, (blk_cell B_n 4).trans rfl⟩ (fun hHeld => ?_)
  clear hK K
  refine norm_ (a' := ?_) ?_ ?_
  rotate_left
  · show Act.put _ (some 27) _ = _
    simp only [Act.put, List.setIfInBounds_toArray, List.set_cons_zero, List.set_cons_succ, i64_w, i32_w]
    rfl
  refine pure_ (i := 7) (N := some 28) (v := ?_) (a' := ?_) #[true, true, true, true, true, true, true, true, false] rfl rfl (by kernel_rfl) (fun _ _ _ h => h) (Or.inl ⟨by rfl, ?_⟩) ?_ ?_
  rotate_left
  · intro w'
    go_simp
    with_reducible rfl
  rotate_left
  · simp only [Act.put, List.setIfInBounds_toArray, List.set_cons_zero, List.set_cons_succ, i64_w, i32_w]
    rfl
  refine pure_ (i := 8) (N := some 0) (v := ?_) (a' := ?_) #[true, true, true, true, true, true, true, true, true] rfl rfl (by kernel_rfl) (fun _ _ _ h => h) (Or.inl ⟨by rfl, ?_⟩) ?_ ?_
  rotate_left
  · intro w'
    go_simp
    with_reducible rfl
  rotate_left
  · simp only [Act.put, List.setIfInBounds_toArray, List.set_cons_zero, List.set_cons_succ, i64_w, i32_w]
    rfl
  refine done_ (by kernel_rfl) ?_
  replace HB := Aside0.mk HB
  clear hHeld
  go_wp2_with fail
  go_ret
  exact ⟨rfl, HB.out⟩
end Go.Proofs.Ythdnaliahdohhaa.H
