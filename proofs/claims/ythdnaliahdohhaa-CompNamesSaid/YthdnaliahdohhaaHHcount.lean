/- comp: how often each variable is met (count). -/
import Derived.Test.YthdnaliahdohhaaHHown
import Derived.Test.YthdnaliahdohhaaHMods
import Derived.Test.YthdnaliahdohhaaHy0
namespace Go.Proofs.Ythdnaliahdohhaa.H
open Go.RowKit Go.Proofs.YthdnaliahdohhaaW.PrintWords Go.Proofs.YthdnaliahdohhaaW.PrintLast Go.Proofs.YthdnaliahdohhaaW.PrintMore Go.Proofs.Ythdnaliahdohhaa.Map
attribute [local go_sem] max2_int min2_int max_two min_two max_three min_three max_four min_four
set_option linter.unusedVariables false
set_option linter.unusedSimpArgs false
def iV (n : Int) : Value := .int .i64 n
theorem intK : KeyLaw Try.prog 2 iV := intLaw (by kernel_rfl)
theorem und140 : Try.prog.underlying 140 = some (.map 2 3) := by kernel_rfl
theorem zero3 (w : World) : (zeroValue 3).run Try.prog w = .ok (.int .i64 0) w := by kernel_rfl
def cntV (n : Int) (T : List (Int × Int)) : List (Int × Int) := putK n (wrap64 (((lookK n T).getD 0) + 1)) T
def cntN (x : S58) (T : List (Int × Int)) : List (Int × Int) := if x.f0 = 1 then cntV x.f1 T else T
mutual
/-- how often each variable is met -/
def cntT : S58 → List (Int × Int) → List (Int × Int)
  | ⟨k, n, s, l⟩, T => cntL l (cntN ⟨k, n, s, l⟩ T)
def cntL : List S58 → List (Int × Int) → List (Int × Int)
  | [], T => T
  | x :: l, T => cntL l (cntT x T)
end
theorem cntT_eq (x : S58) (T : List (Int × Int)) : cntT x T = cntL x.f3 (cntN x T) := by cases x; rfl
theorem cntL_app : ∀ (l m : List S58) (T : List (Int × Int)), cntL (l ++ m) T = cntL m (cntL l T)
  | [], _, _ => rfl
  | x :: l, m, T => by simp only [List.cons_append, cntL]; exact cntL_app l m _
theorem cntL_take (l : List S58) (k : Nat) (h : k < l.length) (T : List (Int × Int)) : cntL (l.take (k + 1)) T = cntT (rd_T58 l k) (cntL (l.take k) T) := by
  rw [take_rd l k h, cntL_app]; rfl
theorem map_getD (o : Option Int) : (o.map iV).getD (.int .i64 0) = .int .i64 (o.getD 0) := by cases o <;> rfl
/-- the blocks that count has to do with -/
structure CI (w0 w : World) (g mt : Nat) (v : Value) (ms : Nat) (T : List (Int × Int)) : Prop where
  below : Below w0.heap.size w0 w
  box : w.heap[g]? = some (.cells #[v, .map (some mt), .map (some ms)] 142 (0, 0))
  tab : Is iV iV w mt T
  lt : w0.heap.size ≤ mt
theorem CI.step {w0 w w1 : World} {g mt ms : Nat} {v : Value} {T : List (Int × Int)} (h : CI w0 w g mt v ms T) (hb : Below w.heap.size w w1) : CI w0 w1 g mt v ms T :=
  ⟨below_step h.below hb, blk_below h.box hb, h.tab.mods (Mods.of_below (fun _ => False) hb) id, h.lt⟩
theorem CI.turn {w0 w w1 : World} {g mt ms : Nat} {v : Value} {T T1 : List (Int × Int)} (h : CI w0 w g mt v ms T) (hb : Mods (fun k => k = mt) w w1) (ht : Is iV iV w1 mt T1) : CI w0 w1 g mt v ms T1 :=
  ⟨hb.under h.below (Nat.le_refl _) (fun k hk => by rw [hk]; exact h.lt), hb.blk h.box (fun e => h.tab.ne_cells h.box e), ht, h.lt⟩
set_option maxHeartbeats 8000000 in
set_option maxRecDepth 100000 in
theorem count_calls (n : Nat) (hn : n ≤ 1000000) : ∀ (x : S58) (hx : szT x ≤ n) (A : Option Addr) (c : Nat) (w0 w : World) (hC : Kd.C k58 w0 A x.f3.length x.f3) (g mt ms : Nat) (v : Value) (T : List (Int × Int)) (hI : CI w0 w g mt v ms T),
    Calls Try.prog 80 #[.pointer (some ⟨g, 0, none⟩), .agg #[.int .i64 x.f0, .int .i64 x.f1, .string x.f2, .slice A x.f3.length c]] w fun e w' => e = .returned (.tuple #[]) ∧ CI w0 w' g mt v ms (cntT x T) ∧ Mods (fun k => k = mt) w w' := by
  induction n with
  | zero => intro x hx; have := szT_eq x; omega
  | succ n ih0 =>
  have ih := ih0 (by omega)
  clear ih0
  intro x hx A c w0 w hC g mt ms v T hI
  have HC := Aside0.mk hC
  have Hs : Aside0 (szL x.f3 ≤ 1000000) := ⟨by have := szT_eq x; omega⟩
  have Hx := Aside0.mk (show szL x.f3 ≤ n by have := szT_eq x; omega)
  have HI := Aside0.mk hI
  have HT := Aside0.mk (cntT_eq x T)
  clear hx hC hI
  have hlm : x.f3.length ≤ 9223372036854775807 := HC.out.2.1
  go_enter Try.func80, Try.ntmps80
  go_wp2_with fail
  all_goals have HIa := (HI.out.step (below_alloc (Below.refl _ _) (.cells #[.int .i64 x.f0, .int .i64 x.f1, .string x.f2, .slice A x.f3.length c] 58)))
  all_goals have BX := heap_alloc_new w (.cells #[.int .i64 x.f0, .int .i64 x.f1, .string x.f2, .slice A x.f3.length c] 58)
  all_goals have HMa := Mods.of_alloc (fun k => k = mt) w (.cells #[.int .i64 x.f0, .int .i64 x.f1, .string x.f2, .slice A x.f3.length c] 58)
  all_goals generalize w.alloc (.cells #[.int .i64 x.f0, .int .i64 x.f1, .string x.f2, .slice A x.f3.length c] 58) = w1 at *
  · rename_i hk
    have HN : cntN x T = putK x.f1 (wrap64 ((lookK x.f1 T).getD 0 + 1)) T := by unfold cntN; rw [if_pos (by simpa using hk)]; rfl
    clear hk
    skip
    refine start_ (n := 9) (S := (fun w' => w'.cell? ⟨g, 0, none⟩ = some (v) ∧ w'.cell? ⟨g, 1, none⟩ = some (.map (some mt)) ∧ w'.cell? ⟨g, 2, none⟩ = some (.map (some ms)) ∧ w'.cell? ⟨w.heap.size, 0, none⟩ = some (.int .i64 x.f0) ∧ w'.cell? ⟨w.heap.size, 1, none⟩ = some (.int .i64 x.f1) ∧ w'.cell? ⟨w.heap.size, 2, none⟩ = some (.string x.f2) ∧ w'.cell? ⟨w.heap.size, 3, none⟩ = some (.slice A x.f3.length c) ∧ Is iV iV w' mt T)) (ds := [8]) #[false, false, false, false, false, false, false, false, false] (by kernel_rfl) rfl rfl ⟨(blk_cell (blk_drew HIa.box) 0).trans rfl, (blk_cell (blk_drew HIa.box) 1).trans rfl, (blk_cell (blk_drew HIa.box) 2).trans rfl, (blk_cell (blk_drew BX) 0).trans rfl, (blk_cell (blk_drew BX) 1).trans rfl, (blk_cell (blk_drew BX) 2).trans rfl, (blk_cell (blk_drew BX) 3).trans rfl, HIa.tab.mods (Mods.of_drew (fun _ => False) _) id⟩ (fun hHeld => ?_)
    replace HIa := HIa.step (below_drew (Below.refl _ _))
    replace BX := blk_drew BX
    replace HMa := HMa.then (Mods.of_drew (fun _ => False) _) (fun _ h => h.elim)
    generalize w1.drew = w2 at *
    have hbox := HIa.box
    refine pure_ (i := 0) (N := some 9) (v := ?_) (a' := ?_) #[true, false, false, false, false, false, false, false, false] rfl rfl (by kernel_rfl) (fun _ _ _ h => h) (Or.inl ⟨by rfl, ?_⟩) ?_ ?_
    rotate_left
    · intro w'
      go_simp
      with_reducible rfl
    rotate_left
    · simp only [Act.put, List.setIfInBounds_toArray, List.set_cons_zero, List.set_cons_succ, i64_w, i32_w]
      rfl
    refine pure_ (i := 1) (N := some 10) (v := ?_) (a' := ?_) #[true, true, false, false, false, false, false, false, false] rfl rfl (by kernel_rfl) (fun _ _ _ h => h) (Or.inl ⟨by rfl, ?_⟩) ?_ ?_
    rotate_left
    · intro w'
      go_simp
      with_reducible rfl
    rotate_left
    · simp only [Act.put, List.setIfInBounds_toArray, List.set_cons_zero, List.set_cons_succ, i64_w, i32_w]
      rfl
    refine pure_ (i := 2) (N := some 11) (v := ?_) (a' := ?_) #[true, true, true, false, false, false, false, false, false] rfl rfl (by kernel_rfl) (fun _ _ _ h => h) (Or.inl ⟨by rfl, ?_⟩) ?_ ?_
    rotate_left
    · intro w'
      go_simp
      with_reducible rfl
    rotate_left
    · simp only [Act.put, List.setIfInBounds_toArray, List.set_cons_zero, List.set_cons_succ, i64_w, i32_w]
      rfl
    refine take_ (i := 3) (N := some 12) (v := ?_) (a' := ?_) #[true, true, true, true, false, false, false, false, false] rfl rfl (by kernel_rfl) (fun _ _ _ h => h) (Or.inl ⟨by rfl, ?_⟩) hHeld ?_ ?_
    rotate_left
    · rintro w' ⟨s0, s1, s2, s3, s4, s5, s6, s7⟩
      go_simp
      with_reducible rfl
    rotate_left
    · simp only [Act.put, List.setIfInBounds_toArray, List.set_cons_zero, List.set_cons_succ, i64_w, i32_w]
      rfl
    refine pure_ (i := 4) (N := some 13) (v := ?_) (a' := ?_) #[true, true, true, true, true, false, false, false, false] rfl rfl (by kernel_rfl) (fun _ _ _ h => h) (Or.inl ⟨by rfl, ?_⟩) ?_ ?_
    rotate_left
    · intro w'
      go_simp
      with_reducible rfl
    rotate_left
    · simp only [Act.put, List.setIfInBounds_toArray, List.set_cons_zero, List.set_cons_succ, i64_w, i32_w]
      rfl
    refine take_ (i := 5) (N := some 14) (v := ?_) (a' := ?_) #[true, true, true, true, true, true, false, false, false] rfl rfl (by kernel_rfl) (fun _ _ _ h => h) (Or.inl ⟨by rfl, ?_⟩) hHeld ?_ ?_
    rotate_left
    · rintro w' ⟨s0, s1, s2, s3, s4, s5, s6, s7⟩
      go_simp
      with_reducible rfl
    rotate_left
    · simp only [Act.put, List.setIfInBounds_toArray, List.set_cons_zero, List.set_cons_succ, i64_w, i32_w]
      rfl
    refine one_ (i := 6) (N := some 15) #[true, true, true, true, true, true, true, false, false] rfl rfl (by kernel_rfl) (by decide) (fun K hK => ?_)
    refine value_ (w1 := ?_) (v := ?_) (by rfl) rfl ?_ ?_
    rotate_left 2
    have hlk := HIa.tab.lookup intK und140 (zero3 w2) x.f1 false
    simp only [map_getD, Bool.false_eq_true, if_false, iV] at hlk
    · go_simp
      first | done | rfl | (constructor <;> rfl)
    refine hK.out _ _ ⟨(blk_cell HIa.box 0).trans rfl, (blk_cell HIa.box 1).trans rfl, (blk_cell HIa.box 2).trans rfl, (blk_cell BX 0).trans rfl, (blk_cell BX 1).trans rfl, (blk_cell BX 2).trans rfl, (blk_cell BX 3).trans rfl, HIa.tab⟩ (fun hHeld => ?_)
    clear hK K
    refine norm_ (a' := ?_) ?_ ?_
    rotate_left
    · show Act.put _ (some 15) _ = _
      simp only [Act.put, List.setIfInBounds_toArray, List.set_cons_zero, List.set_cons_succ, i64_w, i32_w]
      rfl
    refine pure_ (i := 7) (N := some 16) (v := ?_) (a' := ?_) #[true, true, true, true, true, true, true, true, false] rfl rfl (by kernel_rfl) (fun _ _ _ h => h) (Or.inl ⟨by rfl, ?_⟩) ?_ ?_
    rotate_left
    · intro w'
      go_simp
      with_reducible rfl
    rotate_left
    · simp only [Act.put, List.setIfInBounds_toArray, List.set_cons_zero, List.set_cons_succ, i64_w, i32_w]
      rfl
    obtain ⟨w3, hrun, hI3, hT3⟩ := HIa.tab.update intK und140 x.f1 (wrap64 (((lookK x.f1 T).getD 0) + 1))
    simp only [iV] at hrun
    refine last_ (i := 8) (N := none) #[true, true, true, true, true, true, true, true, true] rfl rfl (by kernel_rfl) (by decide) (fun K hK => ?_)
    refine skip_ (by rfl) rfl (w1 := w3) ?_ ?_
    · go_simp
      first | done | rfl
    refine hK.out _ _ ?_
    clear hK K
    refine done_ (by kernel_rfl) ?_
    have hne := HIa.tab.ne_cells BX
    have HIb := HIa.turn (Mods.of_map hT3) hI3
    replace BX := (Mods.of_map hT3).blk BX hne
    replace HMa := HMa.then (Mods.of_map hT3) (fun _ h => .inl h)
    clear HIa hHeld hrun hI3 hT3 hbox
    rw [← HN] at HIb
    have HIa := HIb
    clear HIb
    skip
    clear HN
    replace HIa := Aside0.mk HIa
    replace HMa := Aside0.mk HMa
    have d3 : w3.cell? ⟨w.heap.size, 3, none⟩ = some (.slice A x.f3.length c) := (blk_cell BX 3).trans rfl
    clear BX
    go_wp2_with fail
    clear d3
    generalize cntN x T = T1 at *
    have HM0 := HIa.out.below
    go_loopw [20] (fun i wr => ∃ (k : Nat), i = .int .i64 k ∧ Aside0 (k ≤ x.f3.length) ∧ Aside0 (CI w0 wr g mt v ms (cntL (x.f3.take k) T1)) ∧ Aside0 (Mods (fun k => k = mt) w wr)) (fun i _ => x.f3.length - (intOf i).toNat)
    case atStart => exact ⟨0, rfl, ⟨by omega⟩, HIa, HMa⟩
    case round =>
      clear HM0 HIa HMa
      obtain ⟨k, rfl, hk, HI, HM⟩ := hrel
      by_cases hlt : k < x.f3.length
      · have hlt2 : decide ((k : Int) < (x.f3.length : Int)) = true := decide_eq_true (by omega)
        have hlt3 : decide (k < x.f3.length) = true := decide_eq_true hlt
        obtain ⟨ad, B, d, ead, e0, e1, e2, e3, hd, hB⟩ := at_T58 HC.out (k : Int) (by omega) (by omega)
        have q0 := (HI.out.below.cell (World.block_lt_of_cell? w0 _ e0)).trans e0
        have q1 := (HI.out.below.cell (World.block_lt_of_cell? w0 _ e1)).trans e1
        have q2 := (HI.out.below.cell (World.block_lt_of_cell? w0 _ e2)).trans e2
        have q3 := (HI.out.below.cell (World.block_lt_of_cell? w0 _ e3)).trans e3
        have hy : Aside0 (szT (rd_T58 x.f3 k) ≤ n) := ⟨Nat.le_trans (szL_rd _ _ hlt) Hx.out⟩
        have Htk := Aside0.mk (cntL_take x.f3 k hlt T1)
        have Hlt := Aside0.mk hlt
        replace hB := Aside0.mk hB
        subst ead
        clear e0 e1 e2 e3 hd
        generalize rd_T58 x.f3 k = y at *
        simp only [Int.toNat_natCast] at q0 q1 q2 q3
        go_wp2_with fail
        have HI2 := HI.out.step (below_alloc (Below.refl _ _) (.cells #[.int .i64 y.f0, .int .i64 y.f1, .string y.f2, .slice B y.f3.length d] 58))
        have HM2 := HM.out.then (Mods.of_alloc (fun _ => False) wr (.cells #[.int .i64 y.f0, .int .i64 y.f1, .string y.f2, .slice B y.f3.length d] 58)) (fun _ h => h.elim)
        refine (ih y hy.out B d w0 _ hB.out g mt ms v _ HI2).mono ?_
        rintro e w5 ⟨rfl, HI5, hM5⟩
        have HI6 := Aside0.mk HI5
        have HM6 := Aside0.mk (HM2.then hM5 (fun _ h => .inl h))
        clear HI5 hM5 HI2 HM2 q0 q1 q2 q3 hlt2 hlt3
        go_wp2_with fail
        go_roundw
        case rel => exact ⟨k + 1, by go_num, ⟨Hlt.out⟩, ⟨by rw [Htk.out]; exact HI6.out⟩, HM6⟩
        case measure => have := Hlt.out; simp [intOf]; omega
      · have hlt2 : decide ((k : Int) < (x.f3.length : Int)) = false := decide_eq_false (by omega)
        have hlt3 : decide (k < x.f3.length) = false := decide_eq_false hlt
        obtain rfl : k = x.f3.length := by have := hk.out; omega
        go_wp2_with fail
        go_end0
        exact ⟨rfl, by have := HI.out; rw [List.take_length] at this; rw [HT.out]; exact this, HM.out⟩
  · rename_i hk
    have HN : cntN x T = T := by unfold cntN; rw [if_neg (by simpa using hk)]
    rw [← HN] at HIa
    clear HN BX hk
    replace HIa := Aside0.mk HIa
    replace HMa := Aside0.mk HMa
    generalize w1 = w3 at *
    generalize cntN x T = T1 at *
    have HM0 := HIa.out.below
    go_loopw [20] (fun i wr => ∃ (k : Nat), i = .int .i64 k ∧ Aside0 (k ≤ x.f3.length) ∧ Aside0 (CI w0 wr g mt v ms (cntL (x.f3.take k) T1)) ∧ Aside0 (Mods (fun k => k = mt) w wr)) (fun i _ => x.f3.length - (intOf i).toNat)
    case atStart => exact ⟨0, rfl, ⟨by omega⟩, HIa, HMa⟩
    case round =>
      clear HM0 HIa HMa
      obtain ⟨k, rfl, hk, HI, HM⟩ := hrel
      by_cases hlt : k < x.f3.length
      · have hlt2 : decide ((k : Int) < (x.f3.length : Int)) = true := decide_eq_true (by omega)
        have hlt3 : decide (k < x.f3.length) = true := decide_eq_true hlt
        obtain ⟨ad, B, d, ead, e0, e1, e2, e3, hd, hB⟩ := at_T58 HC.out (k : Int) (by omega) (by omega)
        have q0 := (HI.out.below.cell (World.block_lt_of_cell? w0 _ e0)).trans e0
        have q1 := (HI.out.below.cell (World.block_lt_of_cell? w0 _ e1)).trans e1
        have q2 := (HI.out.below.cell (World.block_lt_of_cell? w0 _ e2)).trans e2
        have q3 := (HI.out.below.cell (World.block_lt_of_cell? w0 _ e3)).trans e3
        have hy : Aside0 (szT (rd_T58 x.f3 k) ≤ n) := ⟨Nat.le_trans (szL_rd _ _ hlt) Hx.out⟩
        have Htk := Aside0.mk (cntL_take x.f3 k hlt T1)
        have Hlt := Aside0.mk hlt
        replace hB := Aside0.mk hB
        subst ead
        clear e0 e1 e2 e3 hd
        generalize rd_T58 x.f3 k = y at *
        simp only [Int.toNat_natCast] at q0 q1 q2 q3
        go_wp2_with fail
        have HI2 := HI.out.step (below_alloc (Below.refl _ _) (.cells #[.int .i64 y.f0, .int .i64 y.f1, .string y.f2, .slice B y.f3.length d] 58))
        have HM2 := HM.out.then (Mods.of_alloc (fun _ => False) wr (.cells #[.int .i64 y.f0, .int .i64 y.f1, .string y.f2, .slice B y.f3.length d] 58)) (fun _ h => h.elim)
        refine (ih y hy.out B d w0 _ hB.out g mt ms v _ HI2).mono ?_
        rintro e w5 ⟨rfl, HI5, hM5⟩
        have HI6 := Aside0.mk HI5
        have HM6 := Aside0.mk (HM2.then hM5 (fun _ h => .inl h))
        clear HI5 hM5 HI2 HM2 q0 q1 q2 q3 hlt2 hlt3
        go_wp2_with fail
        go_roundw
        case rel => exact ⟨k + 1, by go_num, ⟨Hlt.out⟩, ⟨by rw [Htk.out]; exact HI6.out⟩, HM6⟩
        case measure => have := Hlt.out; simp [intOf]; omega
      · have hlt2 : decide ((k : Int) < (x.f3.length : Int)) = false := decide_eq_false (by omega)
        have hlt3 : decide (k < x.f3.length) = false := decide_eq_false hlt
        obtain rfl : k = x.f3.length := by have := hk.out; omega
        go_wp2_with fail
        go_end0
        exact ⟨rfl, by have := HI.out; rw [List.take_length] at this; rw [HT.out]; exact this, HM.out⟩
end Go.Proofs.Ythdnaliahdohhaa.H
