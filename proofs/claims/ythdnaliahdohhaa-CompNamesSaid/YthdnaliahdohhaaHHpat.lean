/- comp: a term's pattern (pattern). -/
import Derived.Test.YthdnaliahdohhaaHHput
namespace Go.Proofs.Ythdnaliahdohhaa.H
open Go.RowKit Go.Proofs.YthdnaliahdohhaaW.PrintWords Go.Proofs.YthdnaliahdohhaaW.PrintLast Go.Proofs.YthdnaliahdohhaaW.PrintMore Go.Proofs.Ythdnaliahdohhaa.Map
attribute [local go_sem] max2_int min2_int max_two min_two max_three min_three max_four min_four
set_option linter.unusedVariables false
set_option linter.unusedSimpArgs false
/-- instructions and slots -/
abbrev LS39 := List S39 × List (Int × Int)
/-- a part's own instruction -/
def patN (T : List (Int × Int)) (x : S58) (p : LS39) : LS39 :=
  if x.f0 = 1 then (p.1 ++ [varI x.f1 T p.2], varS x.f1 T p.2)
  else if x.f0 = 2 then (p.1 ++ [⟨4, 0, x.f1, ⟨#[]⟩⟩], p.2)
  else if x.f0 = 3 then (p.1 ++ [⟨5, 0, 0, x.f2⟩], p.2)
  else if x.f0 = 4 then (p.1 ++ [⟨6, x.f3.length, 0, x.f2⟩], p.2)
  else p
mutual
/-- a term's pattern -/
def patT (T : List (Int × Int)) : S58 → LS39 → LS39
  | ⟨k, n, s, l⟩, p => patL T l (patN T ⟨k, n, s, l⟩ p)
def patL (T : List (Int × Int)) : List S58 → LS39 → LS39
  | [], p => p
  | x :: l, p => patL T l (patT T x p)
end
theorem patT_eq (T : List (Int × Int)) (x : S58) (p : LS39) : patT T x p = patL T x.f3 (patN T x p) := by cases x; rfl
theorem patL_app (T : List (Int × Int)) : ∀ (l m : List S58) (p : LS39), patL T (l ++ m) p = patL T m (patL T l p)
  | [], _, _ => rfl
  | x :: l, m, p => by simp only [List.cons_append, patL]; exact patL_app T l m _
theorem patL_take (T : List (Int × Int)) (l : List S58) (k : Nat) (h : k < l.length) (p : LS39) : patL T (l.take (k + 1)) p = patT T (rd_T58 l k) (patL T (l.take k) p) := by
  rw [take_rd l k h, patL_app]; rfl
theorem patN_len (T : List (Int × Int)) (x : S58) (p : LS39) : (patN T x p).1.length ≤ p.1.length + 1 := by
  unfold patN
  split
  · simp
  split
  · simp
  split
  · simp
  split
  · simp
  · omega
mutual
theorem patT_len (T : List (Int × Int)) : ∀ (x : S58) (p : LS39), (patT T x p).1.length ≤ p.1.length + szT x
  | ⟨k, n, s, l⟩, p => by
    have h1 := patL_len T l (patN T ⟨k, n, s, l⟩ p)
    have h2 := patN_len T ⟨k, n, s, l⟩ p
    simp only [patT, szT]
    omega
theorem patL_len (T : List (Int × Int)) : ∀ (l : List S58) (p : LS39), (patL T l p).1.length ≤ p.1.length + szL l
  | [], p => by simp [patL, szL]
  | x :: l, p => by
    have h1 := patT_len T x p
    have h2 := patL_len T l (patT T x p)
    simp only [patL, szL]
    omega
end
theorem szL_tk : ∀ (l : List S58) (k : Nat), szL (l.take k) ≤ szL l
  | [], k => by simp
  | x :: l, 0 => by simp [szL]
  | x :: l, k + 1 => by have := szL_tk l k; simp only [List.take_succ_cons, szL]; omega
theorem szL_take_rd (l : List S58) (k : Nat) (h : k < l.length) : szL (l.take k) + szT (rd_T58 l k) ≤ szL l := by
  have h1 := szL_tk l (k + 1)
  have h2 : ∀ a b : List S58, szL (a ++ b) = szL a + szL b := by
    intro a b
    induction a with
    | nil => simp [szL]
    | cons x a ih => simp only [List.cons_append, szL, ih]; omega
  rw [take_rd l k h, h2] at h1
  simp only [szL] at h1
  omega
theorem CStep.blk {w0 w w1 : World} {g mt ms : Nat} {v v1 : Value} {L : List S39} {T S : List (Int × Int)} {b t : Nat} {cs : Array Value} (h : CStep w w1 g ms v v1) (hI : CS w0 w g mt ms v L T S) (hb : w.heap[b]? = some (.cells cs t (0, 0))) (h1 : t ≠ 39) (h2 : t ≠ 142) : w1.heap[b]? = some (.cells cs t (0, 0)) := by
  refine h.mods.blk hb ?_
  rintro (rfl | rfl | e)
  · exact blk_ne hb hI.box h2 rfl
  · exact hI.slots.ne_cells hb rfl
  · exact Kd.N_ne hI.row hb (fun e => h1 e.symm) e.symm
/-- where the walk of a pattern stands -/
structure PS (w0 w w1 : World) (g mt ms : Nat) (v : Value) (T : List (Int × Int)) (p : LS39) (v1 : Value) : Prop where
  st : CS w0 w1 g mt ms v1 p.1 T p.2
  step : CStep w w1 g ms v v1
  box : w1.heap[w.heap.size]? = some (.cells #[.pointer (some ⟨g, 0, none⟩)] 139 (0, 0))
theorem PS.next {w0 w w1 w2 : World} {g mt ms : Nat} {v : Value} {T : List (Int × Int)} {p q : LS39} {v1 v2 : Value} (h : PS w0 w w1 g mt ms v T p v1) (hs : CS w0 w2 g mt ms v2 q.1 T q.2) (hc : CStep w1 w2 g ms v1 v2) : PS w0 w w2 g mt ms v T q v2 :=
  ⟨hs, h.step.trans hc, hc.blk h.st h.box (by decide) (by decide)⟩
theorem PS.below {w0 w w1 w2 : World} {g mt ms : Nat} {v : Value} {T : List (Int × Int)} {p : LS39} {v1 : Value} (h : PS w0 w w1 g mt ms v T p v1) (hb : Below w1.heap.size w1 w2) : PS w0 w w2 g mt ms v T p v1 :=
  ⟨h.st.step hb, h.step.trans (CStep.of_below _ _ _ hb), blk_below h.box hb⟩
set_option maxHeartbeats 8000000 in
set_option maxRecDepth 100000 in
theorem pattern_calls (n : Nat) (hn : n ≤ 1000000) : ∀ (x : S58) (hx : szT x ≤ n) (A : Option Addr) (c : Nat) (w0 w : World) (hC : Kd.C k58 w0 A x.f3.length x.f3) (g mt ms : Nat) (v : Value) (T : List (Int × Int)) (p : LS39) (hI : CS w0 w g mt ms v p.1 T p.2) (hl : p.1.length + szT x ≤ 3000000),
    Calls Try.prog 81 #[.pointer (some ⟨g, 0, none⟩), .agg #[.int .i64 x.f0, .int .i64 x.f1, .string x.f2, .slice A x.f3.length c]] w fun e w' => ∃ v', e = .returned (.tuple #[]) ∧ CS w0 w' g mt ms v' (patT T x p).1 T (patT T x p).2 ∧ CStep w w' g ms v v' := by
  induction n with
  | zero => intro x hx; have := szT_eq x; omega
  | succ n ih0 =>
  have ih := ih0 (by omega)
  clear ih0
  intro x hx A c w0 w hC g mt ms v T p hI hl
  have HC := Aside0.mk hC
  have Hs : Aside0 (szL x.f3 ≤ 1000000) := ⟨by have := szT_eq x; omega⟩
  have Hx := Aside0.mk (show szL x.f3 ≤ n by have := szT_eq x; omega)
  have Hl := Aside0.mk (show p.1.length + szL x.f3 + 1 ≤ 3000000 by have := szT_eq x; omega)
  have HT := Aside0.mk (patT_eq T x p)
  have hlm : x.f3.length ≤ 9223372036854775807 := hC.2.1
  have hmf : ∀ (fn : Fn) (first cap : Array Value) (w : World), (Instr.makeFunc fn first cap).run Try.prog w = .ok (.func fn first cap) w := fun _ _ _ _ => rfl
  have b1 := below_alloc (Below.refl w.heap.size w) (.cells #[.pointer (some ⟨g, 0, none⟩)] 139)
  have b2 := below_alloc (Below.refl (w.alloc (.cells #[.pointer (some ⟨g, 0, none⟩)] 139)).heap.size (w.alloc (.cells #[.pointer (some ⟨g, 0, none⟩)] 139))) (.cells #[.int .i64 x.f0, .int .i64 x.f1, .string x.f2, .slice A x.f3.length c] 58)
  have K1 : ((w.alloc (.cells #[.pointer (some ⟨g, 0, none⟩)] 139)).alloc (.cells #[.int .i64 x.f0, .int .i64 x.f1, .string x.f2, .slice A x.f3.length c] 58)).heap[w.heap.size]? = some (.cells #[.pointer (some ⟨g, 0, none⟩)] 139 (0, 0)) := blk_alloc (heap_alloc_new _ _) _
  have K2 : ((w.alloc (.cells #[.pointer (some ⟨g, 0, none⟩)] 139)).alloc (.cells #[.int .i64 x.f0, .int .i64 x.f1, .string x.f2, .slice A x.f3.length c] 58)).heap[w.heap.size + 1]? = some (.cells #[.int .i64 x.f0, .int .i64 x.f1, .string x.f2, .slice A x.f3.length c] 58 (0, 0)) := by
    have := heap_alloc_new (w.alloc (.cells #[.pointer (some ⟨g, 0, none⟩)] 139)) (.cells #[.int .i64 x.f0, .int .i64 x.f1, .string x.f2, .slice A x.f3.length c] 58)
    simpa using this
  have HP : Aside0 (PS w0 w ((w.alloc (.cells #[.pointer (some ⟨g, 0, none⟩)] 139)).alloc (.cells #[.int .i64 x.f0, .int .i64 x.f1, .string x.f2, .slice A x.f3.length c] 58)) g mt ms v T p v) := ⟨⟨(hI.step b1).step b2, CStep.of_below _ _ _ (below_step b1 b2), K1⟩⟩
  have BX := Aside0.mk K2
  clear hx hC hI hl b1 b2 K1 K2
  go_enter Try.func81, Try.ntmps81
  go_wp2_with fail
  all_goals generalize (w.alloc (.cells #[.pointer (some ⟨g, 0, none⟩)] 139)).alloc (.cells #[.int .i64 x.f0, .int .i64 x.f1, .string x.f2, .slice A x.f3.length c] 58) = w1 at *
  · skip
    rename (x.f0 == 1) = true => h1
    have HN : patN T x p = (p.1 ++ [varI x.f1 T p.2], varS x.f1 T p.2) := by unfold patN; rw [if_pos (by simpa using h1)]
    clear h1
    refine (variable_calls x.f1 w0 _ g mt ms v p.1 T p.2 HP.out.st).mono ?_
    rintro e w2 ⟨rfl, hI2, hS2⟩
    have BX2 := Aside0.mk (hS2.blk HP.out.st BX.out (by decide) (by decide))
    have HP2 := Aside0.mk (HP.out.next (q := (p.1, varS x.f1 T p.2)) hI2 hS2)
    clear hI2 hS2 HP BX
    generalize varI x.f1 T p.2 = i0 at *
    go_wp2_with fail
    refine (put_calls i0 w.heap.size w0 _ g mt ms v p.1 T _ HP2.out.st HP2.out.box (by have := Hl.out; omega)).mono ?_
    rintro e w3 ⟨v1, rfl, hI3, hS3⟩
    have BX := hS3.blk HP2.out.st BX2.out (by decide) (by decide)
    have HP := HP2.out.next (q := (p.1 ++ [i0], varS x.f1 T p.2)) hI3 hS3
    rw [← HN] at HP
    clear hI3 hS3 HP2 BX2 HN
    replace HP := Aside0.mk HP
    replace BX := Aside0.mk BX
    have d3 : w3.cell? ⟨w.heap.size + 1, 3, none⟩ = some (.slice A x.f3.length c) := (blk_cell BX.out 3).trans rfl
    go_wp2_with fail
    clear d3
    have HTx : Aside0 (patT T x p = patL T x.f3 (patN T x p)) := HT
    have HPl : Aside0 ((patN T x p).1.length + szL x.f3 ≤ 3000000) := ⟨by have := Hl.out; have := patN_len T x p; omega⟩
    generalize patN T x p = p1 at *
    go_loopw [45] (fun i wr => ∃ (k : Nat) (v2 : Value), i = .int .i64 k ∧ Aside0 (k ≤ x.f3.length) ∧ Aside0 (PS w0 w wr g mt ms v T (patL T (x.f3.take k) p1) v2)) (fun i _ => x.f3.length - (intOf i).toNat)
    case atStart => exact ⟨0, v1, rfl, ⟨by omega⟩, HP⟩
    case round =>
      clear HP
      obtain ⟨k, v2, rfl, hk, HP⟩ := hrel
      have HB := HP.out.st.below
      by_cases hlt : k < x.f3.length
      · have hlt2 : decide ((k : Int) < (x.f3.length : Int)) = true := decide_eq_true (by omega)
        have hlt3 : decide (k < x.f3.length) = true := decide_eq_true hlt
        obtain ⟨ad, B, d, ead, e0, e1, e2, e3, hd, hB⟩ := at_T58 HC.out (k : Int) (by omega) (by omega)
        have q0 := (HB.cell (World.block_lt_of_cell? w0 _ e0)).trans e0
        have q1 := (HB.cell (World.block_lt_of_cell? w0 _ e1)).trans e1
        have q2 := (HB.cell (World.block_lt_of_cell? w0 _ e2)).trans e2
        have q3 := (HB.cell (World.block_lt_of_cell? w0 _ e3)).trans e3
        have hy : Aside0 (szT (rd_T58 x.f3 k) ≤ n) := ⟨Nat.le_trans (szL_rd _ _ hlt) Hx.out⟩
        have Htk := Aside0.mk (patL_take T x.f3 k hlt p1)
        have Hll : Aside0 ((patL T (x.f3.take k) p1).1.length + szT (rd_T58 x.f3 k) ≤ 3000000) := ⟨by have h1 := patL_len T (x.f3.take k) p1; have h2 := szL_take_rd x.f3 k hlt; have h3 := HPl.out; omega⟩
        have Hlt := Aside0.mk hlt
        replace hB := Aside0.mk hB
        subst ead
        clear e0 e1 e2 e3 hd
        have HP1 := Aside0.mk (HP.out.below (below_alloc (Below.refl _ _) (.cells #[.int .i64 (rd_T58 x.f3 k).f0, .int .i64 (rd_T58 x.f3 k).f1, .string (rd_T58 x.f3 k).f2, .slice B (rd_T58 x.f3 k).f3.length d] 58)))
        have pa := (blk_cell HP.out.box 0).trans rfl
        have pb := (blk_cell HP1.out.box 0).trans rfl
        clear HB HP
        generalize patL T (x.f3.take k) p1 = pk at *
        generalize rd_T58 x.f3 k = y at *
        simp only [Int.toNat_natCast] at q0 q1 q2 q3
        go_wp2_with fail
        refine (ih y hy.out B d w0 _ hB.out g mt ms v2 T pk HP1.out.st Hll.out).mono ?_
        rintro e w5 ⟨v3, rfl, hI5, hS5⟩
        have HP5 := Aside0.mk (HP1.out.next (q := patT T y pk) hI5 hS5)
        clear hI5 hS5 HP1 q0 q1 q2 q3 pa pb hlt2 hlt3
        go_wp2_with fail
        go_roundw
        case rel => exact ⟨k + 1, v3, by go_num, ⟨Hlt.out⟩, ⟨by rw [Htk.out]; exact HP5.out⟩⟩
        case measure => have := Hlt.out; simp [intOf]; omega
      · have hlt2 : decide ((k : Int) < (x.f3.length : Int)) = false := decide_eq_false (by omega)
        have hlt3 : decide (k < x.f3.length) = false := decide_eq_false hlt
        obtain rfl : k = x.f3.length := by have := hk.out; omega
        have HE : Aside0 (CS w0 wr g mt ms v2 (patT T x p).1 T (patT T x p).2 ∧ CStep w wr g ms v v2) := ⟨by have := HP.out; rw [List.take_length] at this; rw [HTx.out]; exact ⟨this.st, this.step⟩⟩
        clear HP HB
        go_wp2_with fail
        go_end0
        exact ⟨v2, rfl, HE.out⟩
  · skip
    rename (x.f0 == 1) = false => h1
    rename (x.f0 == 2) = true => h2
    have HN : patN T x p = (p.1 ++ [⟨4, 0, x.f1, ⟨#[]⟩⟩], p.2) := by unfold patN; rw [if_neg (by simpa using h1), if_pos (by simpa using h2)]
    clear h1 h2
    refine (put_calls ⟨4, 0, x.f1, ⟨#[]⟩⟩ w.heap.size w0 _ g mt ms v p.1 T _ HP.out.st HP.out.box (by have := Hl.out; omega)).mono ?_
    rintro e w3 ⟨v1, rfl, hI3, hS3⟩
    have BX := hS3.blk HP.out.st BX.out (by decide) (by decide)
    have HP := HP.out.next (q := (p.1 ++ [⟨4, 0, x.f1, ⟨#[]⟩⟩], p.2)) hI3 hS3
    rw [← HN] at HP
    clear hI3 hS3 HN
    replace HP := Aside0.mk HP
    replace BX := Aside0.mk BX
    have d3 : w3.cell? ⟨w.heap.size + 1, 3, none⟩ = some (.slice A x.f3.length c) := (blk_cell BX.out 3).trans rfl
    go_wp2_with fail
    clear d3
    have HTx : Aside0 (patT T x p = patL T x.f3 (patN T x p)) := HT
    have HPl : Aside0 ((patN T x p).1.length + szL x.f3 ≤ 3000000) := ⟨by have := Hl.out; have := patN_len T x p; omega⟩
    generalize patN T x p = p1 at *
    go_loopw [45] (fun i wr => ∃ (k : Nat) (v2 : Value), i = .int .i64 k ∧ Aside0 (k ≤ x.f3.length) ∧ Aside0 (PS w0 w wr g mt ms v T (patL T (x.f3.take k) p1) v2)) (fun i _ => x.f3.length - (intOf i).toNat)
    case atStart => exact ⟨0, v1, rfl, ⟨by omega⟩, HP⟩
    case round =>
      clear HP
      obtain ⟨k, v2, rfl, hk, HP⟩ := hrel
      have HB := HP.out.st.below
      by_cases hlt : k < x.f3.length
      · have hlt2 : decide ((k : Int) < (x.f3.length : Int)) = true := decide_eq_true (by omega)
        have hlt3 : decide (k < x.f3.length) = true := decide_eq_true hlt
        obtain ⟨ad, B, d, ead, e0, e1, e2, e3, hd, hB⟩ := at_T58 HC.out (k : Int) (by omega) (by omega)
        have q0 := (HB.cell (World.block_lt_of_cell? w0 _ e0)).trans e0
        have q1 := (HB.cell (World.block_lt_of_cell? w0 _ e1)).trans e1
        have q2 := (HB.cell (World.block_lt_of_cell? w0 _ e2)).trans e2
        have q3 := (HB.cell (World.block_lt_of_cell? w0 _ e3)).trans e3
        have hy : Aside0 (szT (rd_T58 x.f3 k) ≤ n) := ⟨Nat.le_trans (szL_rd _ _ hlt) Hx.out⟩
        have Htk := Aside0.mk (patL_take T x.f3 k hlt p1)
        have Hll : Aside0 ((patL T (x.f3.take k) p1).1.length + szT (rd_T58 x.f3 k) ≤ 3000000) := ⟨by have h1 := patL_len T (x.f3.take k) p1; have h2 := szL_take_rd x.f3 k hlt; have h3 := HPl.out; omega⟩
        have Hlt := Aside0.mk hlt
        replace hB := Aside0.mk hB
        subst ead
        clear e0 e1 e2 e3 hd
        have HP1 := Aside0.mk (HP.out.below (below_alloc (Below.refl _ _) (.cells #[.int .i64 (rd_T58 x.f3 k).f0, .int .i64 (rd_T58 x.f3 k).f1, .string (rd_T58 x.f3 k).f2, .slice B (rd_T58 x.f3 k).f3.length d] 58)))
        have pa := (blk_cell HP.out.box 0).trans rfl
        have pb := (blk_cell HP1.out.box 0).trans rfl
        clear HB HP
        generalize patL T (x.f3.take k) p1 = pk at *
        generalize rd_T58 x.f3 k = y at *
        simp only [Int.toNat_natCast] at q0 q1 q2 q3
        go_wp2_with fail
        refine (ih y hy.out B d w0 _ hB.out g mt ms v2 T pk HP1.out.st Hll.out).mono ?_
        rintro e w5 ⟨v3, rfl, hI5, hS5⟩
        have HP5 := Aside0.mk (HP1.out.next (q := patT T y pk) hI5 hS5)
        clear hI5 hS5 HP1 q0 q1 q2 q3 pa pb hlt2 hlt3
        go_wp2_with fail
        go_roundw
        case rel => exact ⟨k + 1, v3, by go_num, ⟨Hlt.out⟩, ⟨by rw [Htk.out]; exact HP5.out⟩⟩
        case measure => have := Hlt.out; simp [intOf]; omega
      · have hlt2 : decide ((k : Int) < (x.f3.length : Int)) = false := decide_eq_false (by omega)
        have hlt3 : decide (k < x.f3.length) = false := decide_eq_false hlt
        obtain rfl : k = x.f3.length := by have := hk.out; omega
        have HE : Aside0 (CS w0 wr g mt ms v2 (patT T x p).1 T (patT T x p).2 ∧ CStep w wr g ms v v2) := ⟨by have := HP.out; rw [List.take_length] at this; rw [HTx.out]; exact ⟨this.st, this.step⟩⟩
        clear HP HB
        go_wp2_with fail
        go_end0
        exact ⟨v2, rfl, HE.out⟩
  · skip
    rename (x.f0 == 1) = false => h1
    rename (x.f0 == 2) = false => h2
    rename (x.f0 == 3) = true => h3
    have HN : patN T x p = (p.1 ++ [⟨5, 0, 0, x.f2⟩], p.2) := by unfold patN; rw [if_neg (by simpa using h1), if_neg (by simpa using h2), if_pos (by simpa using h3)]
    clear h1 h2 h3
    refine (put_calls ⟨5, 0, 0, x.f2⟩ w.heap.size w0 _ g mt ms v p.1 T _ HP.out.st HP.out.box (by have := Hl.out; omega)).mono ?_
    rintro e w3 ⟨v1, rfl, hI3, hS3⟩
    have BX := hS3.blk HP.out.st BX.out (by decide) (by decide)
    have HP := HP.out.next (q := (p.1 ++ [⟨5, 0, 0, x.f2⟩], p.2)) hI3 hS3
    rw [← HN] at HP
    clear hI3 hS3 HN
    replace HP := Aside0.mk HP
    replace BX := Aside0.mk BX
    have d3 : w3.cell? ⟨w.heap.size + 1, 3, none⟩ = some (.slice A x.f3.length c) := (blk_cell BX.out 3).trans rfl
    go_wp2_with fail
    clear d3
    have HTx : Aside0 (patT T x p = patL T x.f3 (patN T x p)) := HT
    have HPl : Aside0 ((patN T x p).1.length + szL x.f3 ≤ 3000000) := ⟨by have := Hl.out; have := patN_len T x p; omega⟩
    generalize patN T x p = p1 at *
    go_loopw [45] (fun i wr => ∃ (k : Nat) (v2 : Value), i = .int .i64 k ∧ Aside0 (k ≤ x.f3.length) ∧ Aside0 (PS w0 w wr g mt ms v T (patL T (x.f3.take k) p1) v2)) (fun i _ => x.f3.length - (intOf i).toNat)
    case atStart => exact ⟨0, v1, rfl, ⟨by omega⟩, HP⟩
    case round =>
      clear HP
      obtain ⟨k, v2, rfl, hk, HP⟩ := hrel
      have HB := HP.out.st.below
      by_cases hlt : k < x.f3.length
      · have hlt2 : decide ((k : Int) < (x.f3.length : Int)) = true := decide_eq_true (by omega)
        have hlt3 : decide (k < x.f3.length) = true := decide_eq_true hlt
        obtain ⟨ad, B, d, ead, e0, e1, e2, e3, hd, hB⟩ := at_T58 HC.out (k : Int) (by omega) (by omega)
        have q0 := (HB.cell (World.block_lt_of_cell? w0 _ e0)).trans e0
        have q1 := (HB.cell (World.block_lt_of_cell? w0 _ e1)).trans e1
        have q2 := (HB.cell (World.block_lt_of_cell? w0 _ e2)).trans e2
        have q3 := (HB.cell (World.block_lt_of_cell? w0 _ e3)).trans e3
        have hy : Aside0 (szT (rd_T58 x.f3 k) ≤ n) := ⟨Nat.le_trans (szL_rd _ _ hlt) Hx.out⟩
        have Htk := Aside0.mk (patL_take T x.f3 k hlt p1)
        have Hll : Aside0 ((patL T (x.f3.take k) p1).1.length + szT (rd_T58 x.f3 k) ≤ 3000000) := ⟨by have h1 := patL_len T (x.f3.take k) p1; have h2 := szL_take_rd x.f3 k hlt; have h3 := HPl.out; omega⟩
        have Hlt := Aside0.mk hlt
        replace hB := Aside0.mk hB
        subst ead
        clear e0 e1 e2 e3 hd
        have HP1 := Aside0.mk (HP.out.below (below_alloc (Below.refl _ _) (.cells #[.int .i64 (rd_T58 x.f3 k).f0, .int .i64 (rd_T58 x.f3 k).f1, .string (rd_T58 x.f3 k).f2, .slice B (rd_T58 x.f3 k).f3.length d] 58)))
        have pa := (blk_cell HP.out.box 0).trans rfl
        have pb := (blk_cell HP1.out.box 0).trans rfl
        clear HB HP
        generalize patL T (x.f3.take k) p1 = pk at *
        generalize rd_T58 x.f3 k = y at *
        simp only [Int.toNat_natCast] at q0 q1 q2 q3
        go_wp2_with fail
        refine (ih y hy.out B d w0 _ hB.out g mt ms v2 T pk HP1.out.st Hll.out).mono ?_
        rintro e w5 ⟨v3, rfl, hI5, hS5⟩
        have HP5 := Aside0.mk (HP1.out.next (q := patT T y pk) hI5 hS5)
        clear hI5 hS5 HP1 q0 q1 q2 q3 pa pb hlt2 hlt3
        go_wp2_with fail
        go_roundw
        case rel => exact ⟨k + 1, v3, by go_num, ⟨Hlt.out⟩, ⟨by rw [Htk.out]; exact HP5.out⟩⟩
        case measure => have := Hlt.out; simp [intOf]; omega
      · have hlt2 : decide ((k : Int) < (x.f3.length : Int)) = false := decide_eq_false (by omega)
        have hlt3 : decide (k < x.f3.length) = false := decide_eq_false hlt
        obtain rfl : k = x.f3.length := by have := hk.out; omega
        have HE : Aside0 (CS w0 wr g mt ms v2 (patT T x p).1 T (patT T x p).2 ∧ CStep w wr g ms v v2) := ⟨by have := HP.out; rw [List.take_length] at this; rw [HTx.out]; exact ⟨this.st, this.step⟩⟩
        clear HP HB
        go_wp2_with fail
        go_end0
        exact ⟨v2, rfl, HE.out⟩
  · skip
    rename (x.f0 == 1) = false => h1
    rename (x.f0 == 2) = false => h2
    rename (x.f0 == 3) = false => h3
    rename (x.f0 == 4) = true => h4
    have HN : patN T x p = (p.1 ++ [⟨6, x.f3.length, 0, x.f2⟩], p.2) := by unfold patN; rw [if_neg (by simpa using h1), if_neg (by simpa using h2), if_neg (by simpa using h3), if_pos (by simpa using h4)]
    clear h1 h2 h3 h4
    refine (put_calls ⟨6, x.f3.length, 0, x.f2⟩ w.heap.size w0 _ g mt ms v p.1 T _ HP.out.st HP.out.box (by have := Hl.out; omega)).mono ?_
    rintro e w3 ⟨v1, rfl, hI3, hS3⟩
    have BX := hS3.blk HP.out.st BX.out (by decide) (by decide)
    have HP := HP.out.next (q := (p.1 ++ [⟨6, x.f3.length, 0, x.f2⟩], p.2)) hI3 hS3
    rw [← HN] at HP
    clear hI3 hS3 HN
    replace HP := Aside0.mk HP
    replace BX := Aside0.mk BX
    have d3 : w3.cell? ⟨w.heap.size + 1, 3, none⟩ = some (.slice A x.f3.length c) := (blk_cell BX.out 3).trans rfl
    go_wp2_with fail
    clear d3
    have HTx : Aside0 (patT T x p = patL T x.f3 (patN T x p)) := HT
    have HPl : Aside0 ((patN T x p).1.length + szL x.f3 ≤ 3000000) := ⟨by have := Hl.out; have := patN_len T x p; omega⟩
    generalize patN T x p = p1 at *
    go_loopw [45] (fun i wr => ∃ (k : Nat) (v2 : Value), i = .int .i64 k ∧ Aside0 (k ≤ x.f3.length) ∧ Aside0 (PS w0 w wr g mt ms v T (patL T (x.f3.take k) p1) v2)) (fun i _ => x.f3.length - (intOf i).toNat)
    case atStart => exact ⟨0, v1, rfl, ⟨by omega⟩, HP⟩
    case round =>
      clear HP
      obtain ⟨k, v2, rfl, hk, HP⟩ := hrel
      have HB := HP.out.st.below
      by_cases hlt : k < x.f3.length
      · have hlt2 : decide ((k : Int) < (x.f3.length : Int)) = true := decide_eq_true (by omega)
        have hlt3 : decide (k < x.f3.length) = true := decide_eq_true hlt
        obtain ⟨ad, B, d, ead, e0, e1, e2, e3, hd, hB⟩ := at_T58 HC.out (k : Int) (by omega) (by omega)
        have q0 := (HB.cell (World.block_lt_of_cell? w0 _ e0)).trans e0
        have q1 := (HB.cell (World.block_lt_of_cell? w0 _ e1)).trans e1
        have q2 := (HB.cell (World.block_lt_of_cell? w0 _ e2)).trans e2
        have q3 := (HB.cell (World.block_lt_of_cell? w0 _ e3)).trans e3
        have hy : Aside0 (szT (rd_T58 x.f3 k) ≤ n) := ⟨Nat.le_trans (szL_rd _ _ hlt) Hx.out⟩
        have Htk := Aside0.mk (patL_take T x.f3 k hlt p1)
        have Hll : Aside0 ((patL T (x.f3.take k) p1).1.length + szT (rd_T58 x.f3 k) ≤ 3000000) := ⟨by have h1 := patL_len T (x.f3.take k) p1; have h2 := szL_take_rd x.f3 k hlt; have h3 := HPl.out; omega⟩
        have Hlt := Aside0.mk hlt
        replace hB := Aside0.mk hB
        subst ead
        clear e0 e1 e2 e3 hd
        have HP1 := Aside0.mk (HP.out.below (below_alloc (Below.refl _ _) (.cells #[.int .i64 (rd_T58 x.f3 k).f0, .int .i64 (rd_T58 x.f3 k).f1, .string (rd_T58 x.f3 k).f2, .slice B (rd_T58 x.f3 k).f3.length d] 58)))
        have pa := (blk_cell HP.out.box 0).trans rfl
        have pb := (blk_cell HP1.out.box 0).trans rfl
        clear HB HP
        generalize patL T (x.f3.take k) p1 = pk at *
        generalize rd_T58 x.f3 k = y at *
        simp only [Int.toNat_natCast] at q0 q1 q2 q3
        go_wp2_with fail
        refine (ih y hy.out B d w0 _ hB.out g mt ms v2 T pk HP1.out.st Hll.out).mono ?_
        rintro e w5 ⟨v3, rfl, hI5, hS5⟩
        have HP5 := Aside0.mk (HP1.out.next (q := patT T y pk) hI5 hS5)
        clear hI5 hS5 HP1 q0 q1 q2 q3 pa pb hlt2 hlt3
        go_wp2_with fail
        go_roundw
        case rel => exact ⟨k + 1, v3, by go_num, ⟨Hlt.out⟩, ⟨by rw [Htk.out]; exact HP5.out⟩⟩
        case measure => have := Hlt.out; simp [intOf]; omega
      · have hlt2 : decide ((k : Int) < (x.f3.length : Int)) = false := decide_eq_false (by omega)
        have hlt3 : decide (k < x.f3.length) = false := decide_eq_false hlt
        obtain rfl : k = x.f3.length := by have := hk.out; omega
        have HE : Aside0 (CS w0 wr g mt ms v2 (patT T x p).1 T (patT T x p).2 ∧ CStep w wr g ms v v2) := ⟨by have := HP.out; rw [List.take_length] at this; rw [HTx.out]; exact ⟨this.st, this.step⟩⟩
        clear HP HB
        go_wp2_with fail
        go_end0
        exact ⟨v2, rfl, HE.out⟩
  · skip
    rename (x.f0 == 1) = false => h1
    rename (x.f0 == 2) = false => h2
    rename (x.f0 == 3) = false => h3
    rename (x.f0 == 4) = false => h4
    have HN : patN T x p = p := by unfold patN; rw [if_neg (by simpa using h1), if_neg (by simpa using h2), if_neg (by simpa using h3), if_neg (by simpa using h4)]
    clear h1 h2 h3 h4
    rw [← HN] at HP
    clear HN BX
    generalize w1 = w3 at *
    obtain ⟨v1, hv1⟩ : ∃ v1, v1 = v := ⟨_, rfl⟩
    replace HP : Aside0 (PS w0 w w3 g mt ms v T (patN T x p) v1) := ⟨by rw [hv1]; exact HP.out⟩
    clear hv1
    have HTx : Aside0 (patT T x p = patL T x.f3 (patN T x p)) := HT
    have HPl : Aside0 ((patN T x p).1.length + szL x.f3 ≤ 3000000) := ⟨by have := Hl.out; have := patN_len T x p; omega⟩
    generalize patN T x p = p1 at *
    go_loopw [45] (fun i wr => ∃ (k : Nat) (v2 : Value), i = .int .i64 k ∧ Aside0 (k ≤ x.f3.length) ∧ Aside0 (PS w0 w wr g mt ms v T (patL T (x.f3.take k) p1) v2)) (fun i _ => x.f3.length - (intOf i).toNat)
    case atStart => exact ⟨0, v1, rfl, ⟨by omega⟩, HP⟩
    case round =>
      clear HP
      obtain ⟨k, v2, rfl, hk, HP⟩ := hrel
      have HB := HP.out.st.below
      by_cases hlt : k < x.f3.length
      · have hlt2 : decide ((k : Int) < (x.f3.length : Int)) = true := decide_eq_true (by omega)
        have hlt3 : decide (k < x.f3.length) = true := decide_eq_true hlt
        obtain ⟨ad, B, d, ead, e0, e1, e2, e3, hd, hB⟩ := at_T58 HC.out (k : Int) (by omega) (by omega)
        have q0 := (HB.cell (World.block_lt_of_cell? w0 _ e0)).trans e0
        have q1 := (HB.cell (World.block_lt_of_cell? w0 _ e1)).trans e1
        have q2 := (HB.cell (World.block_lt_of_cell? w0 _ e2)).trans e2
        have q3 := (HB.cell (World.block_lt_of_cell? w0 _ e3)).trans e3
        have hy : Aside0 (szT (rd_T58 x.f3 k) ≤ n) := ⟨Nat.le_trans (szL_rd _ _ hlt) Hx.out⟩
        have Htk := Aside0.mk (patL_take T x.f3 k hlt p1)
        have Hll : Aside0 ((patL T (x.f3.take k) p1).1.length + szT (rd_T58 x.f3 k) ≤ 3000000) := ⟨by have h1 := patL_len T (x.f3.take k) p1; have h2 := szL_take_rd x.f3 k hlt; have h3 := HPl.out; omega⟩
        have Hlt := Aside0.mk hlt
        replace hB := Aside0.mk hB
        subst ead
        clear e0 e1 e2 e3 hd
        have HP1 := Aside0.mk (HP.out.below (below_alloc (Below.refl _ _) (.cells #[.int .i64 (rd_T58 x.f3 k).f0, .int .i64 (rd_T58 x.f3 k).f1, .string (rd_T58 x.f3 k).f2, .slice B (rd_T58 x.f3 k).f3.length d] 58)))
        have pa := (blk_cell HP.out.box 0).trans rfl
        have pb := (blk_cell HP1.out.box 0).trans rfl
        clear HB HP
        generalize patL T (x.f3.take k) p1 = pk at *
        generalize rd_T58 x.f3 k = y at *
        simp only [Int.toNat_natCast] at q0 q1 q2 q3
        go_wp2_with fail
        refine (ih y hy.out B d w0 _ hB.out g mt ms v2 T pk HP1.out.st Hll.out).mono ?_
        rintro e w5 ⟨v3, rfl, hI5, hS5⟩
        have HP5 := Aside0.mk (HP1.out.next (q := patT T y pk) hI5 hS5)
        clear hI5 hS5 HP1 q0 q1 q2 q3 pa pb hlt2 hlt3
        go_wp2_with fail
        go_roundw
        case rel => exact ⟨k + 1, v3, by go_num, ⟨Hlt.out⟩, ⟨by rw [Htk.out]; exact HP5.out⟩⟩
        case measure => have := Hlt.out; simp [intOf]; omega
      · have hlt2 : decide ((k : Int) < (x.f3.length : Int)) = false := decide_eq_false (by omega)
        have hlt3 : decide (k < x.f3.length) = false := decide_eq_false hlt
        obtain rfl : k = x.f3.length := by have := hk.out; omega
        have HE : Aside0 (CS w0 wr g mt ms v2 (patT T x p).1 T (patT T x p).2 ∧ CStep w wr g ms v v2) := ⟨by have := HP.out; rw [List.take_length] at this; rw [HTx.out]; exact ⟨this.st, this.step⟩⟩
        clear HP HB
        go_wp2_with fail
        go_end0
        exact ⟨v2, rfl, HE.out⟩
end Go.Proofs.Ythdnaliahdohhaa.H
