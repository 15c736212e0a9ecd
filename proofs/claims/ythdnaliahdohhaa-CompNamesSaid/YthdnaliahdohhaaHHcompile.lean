/- comp: a clause's code (Compile). -/
import Derived.Test.YthdnaliahdohhaaHHpat
import Derived.Test.YthdnaliahdohhaaHHcheck
namespace Go.Proofs.Ythdnaliahdohhaa.H
open Go.RowKit Go.Proofs.YthdnaliahdohhaaW.PrintWords Go.Proofs.YthdnaliahdohhaaW.PrintLast Go.Proofs.YthdnaliahdohhaaW.PrintMore Go.Proofs.Ythdnaliahdohhaa.Map
attribute [local go_sem] max2_int min2_int max_two min_two max_three min_three max_four min_four
set_option linter.unusedVariables false
set_option linter.unusedSimpArgs false
/-- a code -/
structure Cd where
  nm : ByteArray
  ar : Int
  sl : Int
  bd : Int
  l : List S39
def zCd : Cd := ⟨⟨#[]⟩, 0, 0, 0, []⟩
def cntHB (x y : S58) : List (Int × Int) := cntT y (cntT x [])
def headR (x y : S58) : LS39 := patL (cntHB x y) x.f3 ([], [])
def bodyC (x y : S58) : LS39 := patT (cntHB x y) y (headR x y)
/-- a clause's code, and what is wrong with it -/
def compR (x y : S58) : Cd × Int :=
  if chk x ≠ 0 then (zCd, chk x) else if chk y ≠ 0 then (zCd, chk y)
  else if x.f0 ≠ 3 ∧ x.f0 ≠ 4 then (zCd, 2) else if 20000 < szT x + szT y then (zCd, 3)
  else (⟨x.f2, x.f3.length, (bodyC x y).2.length, (headR x y).1.length, (bodyC x y).1⟩, 0)
/-- what Compile hands back -/
def RetC (r : Cd × Int) (w : World) (e : Ending) (w' : World) : Prop := ∃ A c, e = .returned (.tuple #[.agg #[.string r.1.nm, .int .i64 r.1.ar, .int .i64 r.1.sl, .int .i64 r.1.bd, .slice A r.1.l.length c], .int .i64 r.2]) ∧ r.1.l.length ≤ c ∧ Kd.F k39 w' (fun k => w.heap.size ≤ k) A r.1.l.length r.1.l ∧ Below w.heap.size w w'
theorem CS.count {w0 w w1 : World} {g mt ms : Nat} {v : Value} {L : List S39} {T S T1 : List (Int × Int)} (h : CS w0 w g mt ms v L T S) (hb : Mods (fun k => k = mt) w w1) (ht : Is iV iV w1 mt T1) : CS w0 w1 g mt ms v L T1 S :=
  ⟨hb.under h.below (Nat.le_refl _) (fun k hk => by rw [hk]; exact h.lt), hb.blk h.box (fun e => h.tab.ne_cells h.box e), ht, h.slots.mods hb (fun e => h.ne e.symm), Kd.N_step h.row (fun k hk hl => hb.block k hl hk.2.2.1), h.lg, h.lt, h.ls, h.ne⟩
theorem CS.ci {w0 w : World} {g mt ms : Nat} {v : Value} {L : List S39} {T S : List (Int × Int)} (h : CS w0 w g mt ms v L T S) : CI w0 w g mt v ms T := ⟨h.below, h.box, h.tab, h.lt⟩
theorem CS.start (w : World) : CS w (((w.alloc (.map #[] 0)).alloc (.map #[] 0)).alloc (.cells #[.slice none 0 0, .map (some w.heap.size), .map (some (w.heap.size + 1))] 142)) (w.heap.size + 1 + 1) w.heap.size (w.heap.size + 1) (.slice none 0 0) [] [] [] := by
  have b1 := below_alloc (Below.refl w.heap.size w) (.map #[] 0)
  have b2 := below_alloc (Below.refl (w.alloc (.map #[] 0)).heap.size (w.alloc (.map #[] 0))) (.map #[] 0)
  have b3 := below_alloc (Below.refl ((w.alloc (.map #[] 0)).alloc (.map #[] 0)).heap.size ((w.alloc (.map #[] 0)).alloc (.map #[] 0))) (.cells #[.slice none 0 0, .map (some w.heap.size), .map (some (w.heap.size + 1))] 142)
  have i1 := Is.made iV iV w
  have i2 := Is.made iV iV (w.alloc (.map #[] 0))
  have k := heap_alloc_new ((w.alloc (.map #[] 0)).alloc (.map #[] 0)) (.cells #[.slice none 0 0, .map (some w.heap.size), .map (some (w.heap.size + 1))] 142)
  have s1 : (w.alloc (.map #[] 0)).heap.size = w.heap.size + 1 := by simp
  have s2 : ((w.alloc (.map #[] 0)).alloc (.map #[] 0)).heap.size = w.heap.size + 1 + 1 := by simp
  rw [s1] at i2
  rw [s2] at k
  exact ⟨below_step (below_step b1 b2) b3, k, (i1.mods (Mods.of_below (fun _ => False) b2) id).mods (Mods.of_below (fun _ => False) b3) id, i2.mods (Mods.of_below (fun _ => False) b3) id, Kd.N_nil _ _ _ _ _, by omega, Nat.le_refl _, by omega, by omega⟩
theorem cntHB_eq (x y : S58) : cntT y (cntT x []) = cntHB x y := rfl
theorem set5 (w : World) (g : Nat) (b0 b1 b2 b3 b4 : Value) : Mods (fun k => k = g) w (((((w.setCell ⟨g, 0, none⟩ b0).setCell ⟨g, 1, none⟩ b1).setCell ⟨g, 2, none⟩ b2).setCell ⟨g, 3, none⟩ b3).setCell ⟨g, 4, none⟩ b4) :=
  (mods4 w g b0 b1 b2 b3).then (Mods.of_cell _ ⟨g, 4, none⟩ b4) (fun _ h => .inl h)
theorem blk5 {w : World} {g : Nat} {t : TypeId} {a0 a1 a2 a3 a4 : Value} (b0 b1 b2 b3 b4 : Value) (h : w.heap[g]? = some (.cells #[a0, a1, a2, a3, a4] t (0, 0))) :
    (((((w.setCell ⟨g, 0, none⟩ b0).setCell ⟨g, 1, none⟩ b1).setCell ⟨g, 2, none⟩ b2).setCell ⟨g, 3, none⟩ b3).setCell ⟨g, 4, none⟩ b4).heap[g]? = some (.cells #[b0, b1, b2, b3, b4] t (0, 0)) :=
  blk_put (cs := #[b0, b1, b2, b3, a4]) (blk_put (cs := #[b0, b1, b2, a3, a4]) (blk_put (cs := #[b0, b1, a2, a3, a4]) (blk_put (cs := #[b0, a1, a2, a3, a4]) (blk_put h 0 b0 rfl) 1 b1 rfl) 2 b2 rfl) 3 b3 rfl) 4 b4 rfl
/-- the blocks of Compile's own -/
structure K41 (w wr : World) (x y : S58) (A B : Option Addr) (c d : Nat) : Prop where
  below : Below w.heap.size w wr
  bh : wr.heap[w.heap.size]? = some (.cells #[.int .i64 x.f0, .int .i64 x.f1, .string x.f2, .slice A x.f3.length c] 58 (0, 0))
  bb : wr.heap[w.heap.size + 1]? = some (.cells #[.int .i64 y.f0, .int .i64 y.f1, .string y.f2, .slice B y.f3.length d] 58 (0, 0))
  bz : wr.heap[w.heap.size + 2]? = some (.cells #[.string ⟨#[]⟩, .int .i64 0, .int .i64 0, .int .i64 0, .slice none 0 0] 28 (0, 0))
theorem K41.step {w wr w1 : World} {x y : S58} {A B : Option Addr} {c d : Nat} (k : K41 w wr x y A B c d) (hb : Below wr.heap.size wr w1) : K41 w w1 x y A B c d :=
  ⟨below_step k.below hb, blk_below k.bh hb, blk_below k.bb hb, blk_below k.bz hb⟩
theorem K41.start (w : World) (x y : S58) (A B : Option Addr) (c d : Nat) : K41 w (((w.alloc (.cells #[.int .i64 x.f0, .int .i64 x.f1, .string x.f2, .slice A x.f3.length c] 58)).alloc (.cells #[.int .i64 y.f0, .int .i64 y.f1, .string y.f2, .slice B y.f3.length d] 58)).alloc (.cells #[.string ⟨#[]⟩, .int .i64 0, .int .i64 0, .int .i64 0, .slice none 0 0] 28)) x y A B c d := by
  refine ⟨below_alloc (below_alloc (below_alloc (Below.refl _ _) _) _) _, blk_alloc (blk_alloc (heap_alloc_new _ _) _) _, blk_alloc ?_ _, ?_⟩
  · have := heap_alloc_new (w.alloc (.cells #[.int .i64 x.f0, .int .i64 x.f1, .string x.f2, .slice A x.f3.length c] 58)) (.cells #[.int .i64 y.f0, .int .i64 y.f1, .string y.f2, .slice B y.f3.length d] 58)
    simpa using this
  · have := heap_alloc_new ((w.alloc (.cells #[.int .i64 x.f0, .int .i64 x.f1, .string x.f2, .slice A x.f3.length c] 58)).alloc (.cells #[.int .i64 y.f0, .int .i64 y.f1, .string y.f2, .slice B y.f3.length d] 58)) (.cells #[.string ⟨#[]⟩, .int .i64 0, .int .i64 0, .int .i64 0, .slice none 0 0] 28)
    simpa using this
set_option maxHeartbeats 8000000 in
set_option maxRecDepth 100000 in
theorem compile_calls (x y : S58) (hh : szT x ≤ 400000) (hb : szT y ≤ 400000) (A B : Option Addr) (c d : Nat) (w : World) (hA : Kd.C k58 w A x.f3.length x.f3) (hB : Kd.C k58 w B y.f3.length y.f3) :
    Calls Try.prog 41 #[.agg #[.int .i64 x.f0, .int .i64 x.f1, .string x.f2, .slice A x.f3.length c], .agg #[.int .i64 y.f0, .int .i64 y.f1, .string y.f2, .slice B y.f3.length d]] w (RetC (compR x y) w) := by
  have HA := Aside0.mk hA
  have HB := Aside0.mk hB
  have Hh := Aside0.mk hh
  have Hb := Aside0.mk hb
  have HK := Aside0.mk (K41.start w x y A B c d)
  have hlm : x.f3.length ≤ 9223372036854775807 := hA.2.1
  clear hA hB hh hb
  go_enter Try.func41, Try.ntmps41
  go_wp2_with fail
  generalize (((w.alloc (.cells #[.int .i64 x.f0, .int .i64 x.f1, .string x.f2, .slice A x.f3.length c] 58)).alloc (.cells #[.int .i64 y.f0, .int .i64 y.f1, .string y.f2, .slice B y.f3.length d] 58)).alloc (.cells #[.string ⟨#[]⟩, .int .i64 0, .int .i64 0, .int .i64 0, .slice none 0 0] 28)) = w1 at *
  go_loopw [16] (fun i wr => ∃ k : Nat, i = .int .i64 k ∧ Aside0 (k ≤ 2) ∧ Aside0 (K41 w wr x y A B c d) ∧ Aside0 (1 ≤ k → chk x = 0) ∧ Aside0 (2 ≤ k → chk y = 0)) (fun i _ => 2 - (intOf i).toNat)
  case atStart => exact ⟨0, rfl, ⟨by omega⟩, HK, ⟨by omega⟩, ⟨by omega⟩⟩
  case round =>
    clear HK
    obtain ⟨k, rfl, hk, HK, H1, H2⟩ := hrel
    obtain rfl | rfl | rfl : k = 0 ∨ k = 1 ∨ k = 2 := by have := hk.out; omega
    · have hix : ∀ w' : World, (Instr.index 80 (.agg #[.int .i64 x.f0, .int .i64 x.f1, .string x.f2, .slice A x.f3.length c, .int .i64 y.f0, .int .i64 y.f1, .string y.f2, .slice B y.f3.length d]) (.int .i64 0)).run Try.prog w' = .ok (.agg #[.int .i64 x.f0, .int .i64 x.f1, .string x.f2, .slice A x.f3.length c]) w' := by
        intro w'
        kernel_rfl
      go_wp2_with fail
      have HK2 := Aside0.mk (HK.out.step (below_alloc (Below.refl _ _) (.cells #[.int .i64 x.f0, .int .i64 x.f1, .string x.f2, .slice A x.f3.length c] 58)))
      refine (chk_calls x (by have := Hh.out; omega) _ _ _ (Kd.C_below HA.out HK2.out.below)).mono ?_
      rintro e wq ⟨rfl, hbq⟩
      have HKq := Aside0.mk (HK2.out.step hbq)
      clear hbq HK2 HK
      by_cases hc : chk x = 0
      · have hc2 : (chk x != 0) = false := by simpa using hc
        have HC0 := Aside0.mk hc
        have hc3 : decide (chk x = 0) = true := decide_eq_true hc
        go_wp2_with fail
        go_roundw
        case rel => exact ⟨1, rfl, ⟨by omega⟩, HKq, ⟨fun _ => HC0.out⟩, ⟨by omega⟩⟩
        case measure => decide
      · have hc2 : (chk x != 0) = true := by simpa using hc
        have HR : Aside0 (compR x y = (zCd, chk x)) := ⟨by unfold compR; rw [if_pos hc]⟩
        have e0 := (blk_cell HKq.out.bz 0).trans rfl
        have e1 := (blk_cell HKq.out.bz 1).trans rfl
        have e2 := (blk_cell HKq.out.bz 2).trans rfl
        have e3 := (blk_cell HKq.out.bz 3).trans rfl
        have e4 := (blk_cell HKq.out.bz 4).trans rfl
        have z0 := blk_frozen HKq.out.bz 0
        have z1 := blk_frozen HKq.out.bz 1
        have z2 := blk_frozen HKq.out.bz 2
        have z3 := blk_frozen HKq.out.bz 3
        have z4 := blk_frozen HKq.out.bz 4
        go_wp2_with fail
        refine bodyPost_ret (results_ct rfl _ _ (w.heap.size + 2) 28 #[.string ⟨#[]⟩, .int .i64 0, .int .i64 0, .int .i64 0, .slice none 0 0] (0, 0) _ rfl (blk5 _ _ _ _ _ HKq.out.bz) Try.underlying28 rfl (by kernel_rfl)) rfl ?_
        rw [HR.out]
        refine ⟨none, 0, rfl, Nat.le_refl _, Kd.F_nil _ _ _, ((set5 wq (w.heap.size + 2) _ _ _ _ _).under HKq.out.below (Nat.le_refl _) (fun k hk => by omega))⟩
    · have hix : ∀ w' : World, (Instr.index 80 (.agg #[.int .i64 x.f0, .int .i64 x.f1, .string x.f2, .slice A x.f3.length c, .int .i64 y.f0, .int .i64 y.f1, .string y.f2, .slice B y.f3.length d]) (.int .i64 1)).run Try.prog w' = .ok (.agg #[.int .i64 y.f0, .int .i64 y.f1, .string y.f2, .slice B y.f3.length d]) w' := by
        intro w'
        kernel_rfl
      go_wp2_with fail
      have HK2 := Aside0.mk (HK.out.step (below_alloc (Below.refl _ _) (.cells #[.int .i64 y.f0, .int .i64 y.f1, .string y.f2, .slice B y.f3.length d] 58)))
      refine (chk_calls y (by have := Hb.out; omega) _ _ _ (Kd.C_below HB.out HK2.out.below)).mono ?_
      rintro e wq ⟨rfl, hbq⟩
      have HKq := Aside0.mk (HK2.out.step hbq)
      clear hbq HK2 HK
      by_cases hc : chk y = 0
      · have hc2 : (chk y != 0) = false := by simpa using hc
        have HC0 := Aside0.mk hc
        have hc3 : decide (chk y = 0) = true := decide_eq_true hc
        go_wp2_with fail
        go_roundw
        case rel => exact ⟨2, rfl, ⟨by omega⟩, HKq, ⟨fun _ => H1.out (by omega)⟩, ⟨fun _ => HC0.out⟩⟩
        case measure => decide
      · have hc2 : (chk y != 0) = true := by simpa using hc
        have HR : Aside0 (compR x y = (zCd, chk y)) := ⟨by unfold compR; rw [if_neg (by simpa using H1.out (by omega)), if_pos hc]⟩
        have e0 := (blk_cell HKq.out.bz 0).trans rfl
        have e1 := (blk_cell HKq.out.bz 1).trans rfl
        have e2 := (blk_cell HKq.out.bz 2).trans rfl
        have e3 := (blk_cell HKq.out.bz 3).trans rfl
        have e4 := (blk_cell HKq.out.bz 4).trans rfl
        have z0 := blk_frozen HKq.out.bz 0
        have z1 := blk_frozen HKq.out.bz 1
        have z2 := blk_frozen HKq.out.bz 2
        have z3 := blk_frozen HKq.out.bz 3
        have z4 := blk_frozen HKq.out.bz 4
        go_wp2_with fail
        refine bodyPost_ret (results_ct rfl _ _ (w.heap.size + 2) 28 #[.string ⟨#[]⟩, .int .i64 0, .int .i64 0, .int .i64 0, .slice none 0 0] (0, 0) _ rfl (blk5 _ _ _ _ _ HKq.out.bz) Try.underlying28 rfl (by kernel_rfl)) rfl ?_
        rw [HR.out]
        refine ⟨none, 0, rfl, Nat.le_refl _, Kd.F_nil _ _ _, ((set5 wq (w.heap.size + 2) _ _ _ _ _).under HKq.out.below (Nat.le_refl _) (fun k hk => by omega))⟩
    · have hch : Aside0 (chk x = 0) := ⟨H1.out (by omega)⟩
      have hcb : Aside0 (chk y = 0) := ⟨H2.out (by omega)⟩
      clear H1 H2
      have f0 := (blk_cell HK.out.bh 0).trans rfl
      have HKq := HK
      generalize wr = wq at *
      rcases Classical.em (x.f0 ≠ 3 ∧ x.f0 ≠ 4) with hkd | hkd
      · have n3 : (x.f0 != 3) = true := by simpa using hkd.1
        have n4 : (x.f0 != 4) = true := by simpa using hkd.2
        have m3 : decide (x.f0 = 3) = false := decide_eq_false hkd.1
        have m4 : decide (x.f0 = 4) = false := decide_eq_false hkd.2
        have HR : Aside0 (compR x y = (zCd, 2)) := ⟨by unfold compR; rw [if_neg (by simpa using hch.out), if_neg (by simpa using hcb.out), if_pos hkd]⟩
        have k3 := hkd.1
        have k4 := hkd.2
        clear hkd
        have e0 := (blk_cell HKq.out.bz 0).trans rfl
        have e1 := (blk_cell HKq.out.bz 1).trans rfl
        have e2 := (blk_cell HKq.out.bz 2).trans rfl
        have e3 := (blk_cell HKq.out.bz 3).trans rfl
        have e4 := (blk_cell HKq.out.bz 4).trans rfl
        have z0 := blk_frozen HKq.out.bz 0
        have z1 := blk_frozen HKq.out.bz 1
        have z2 := blk_frozen HKq.out.bz 2
        have z3 := blk_frozen HKq.out.bz 3
        have z4 := blk_frozen HKq.out.bz 4
        go_wp2_with fail
        refine bodyPost_ret (results_ct rfl _ _ (w.heap.size + 2) 28 #[.string ⟨#[]⟩, .int .i64 0, .int .i64 0, .int .i64 0, .slice none 0 0] (0, 0) _ rfl (blk5 _ _ _ _ _ HKq.out.bz) Try.underlying28 rfl (by kernel_rfl)) rfl ?_
        rw [HR.out]
        refine ⟨none, 0, rfl, Nat.le_refl _, Kd.F_nil _ _ _, ((set5 wq (w.heap.size + 2) _ _ _ _ _).under HKq.out.below (Nat.le_refl _) (fun k hk => by omega))⟩
      · have HKD := Aside0.mk hkd
        have hk34 : x.f0 = 3 ∨ x.f0 = 4 := by by_cases h3 : x.f0 = 3; exact .inl h3; exact .inr (by apply Classical.byContradiction; intro h4; exact hkd ⟨h3, h4⟩)
        clear hkd
        rcases hk34 with h3 | h3
        · have n3 : (x.f0 != 3) = false := by simp [h3]
          clear h3
          go_wp2_with fail
          clear n3 f0
          replace HK := HK.out
          clear HKq
          refine start_ (n := 7) (S := (fun w' => w'.cell? ⟨w.heap.size, 0, none⟩ = some (.int .i64 x.f0) ∧ w'.cell? ⟨w.heap.size, 1, none⟩ = some (.int .i64 x.f1) ∧ w'.cell? ⟨w.heap.size, 2, none⟩ = some (.string x.f2) ∧ w'.cell? ⟨w.heap.size, 3, none⟩ = some (.slice A x.f3.length c) ∧ w'.cell? ⟨(w.heap.size + 1), 0, none⟩ = some (.int .i64 y.f0) ∧ w'.cell? ⟨(w.heap.size + 1), 1, none⟩ = some (.int .i64 y.f1) ∧ w'.cell? ⟨(w.heap.size + 1), 2, none⟩ = some (.string y.f2) ∧ w'.cell? ⟨(w.heap.size + 1), 3, none⟩ = some (.slice B y.f3.length d))) (ds := []) #[false, false, false, false, false, false, false] (by kernel_rfl) rfl rfl ⟨(blk_cell (blk_drew HK.bh) 0).trans rfl, (blk_cell (blk_drew HK.bh) 1).trans rfl, (blk_cell (blk_drew HK.bh) 2).trans rfl, (blk_cell (blk_drew HK.bh) 3).trans rfl, (blk_cell (blk_drew HK.bb) 0).trans rfl, (blk_cell (blk_drew HK.bb) 1).trans rfl, (blk_cell (blk_drew HK.bb) 2).trans rfl, (blk_cell (blk_drew HK.bb) 3).trans rfl⟩ (fun hHeld => ?_)
          replace HK := HK.step (below_drew (Below.refl _ _))
          generalize wq.drew = w2 at *
          refine take_ (i := 0) (N := some 37) (v := ?_) (a' := ?_) #[true, false, false, false, false, false, false] rfl rfl (by kernel_rfl) (fun _ _ _ h => h) (Or.inl ⟨by rfl, ?_⟩) hHeld ?_ ?_
          rotate_left
          · rintro w' ⟨s0, s1, s2, s3, s4, s5, s6, s7⟩
            go_simp
            with_reducible rfl
          rotate_left
          · simp only [Act.put, List.setIfInBounds_toArray, List.set_cons_zero, List.set_cons_succ, i64_w, i32_w]
            rfl
          refine take_ (i := 2) (N := some 39) (v := ?_) (a' := ?_) #[true, false, true, false, false, false, false] rfl rfl (by kernel_rfl) (fun _ _ _ h => h) (Or.inl ⟨by rfl, ?_⟩) hHeld ?_ ?_
          rotate_left
          · rintro w' ⟨s0, s1, s2, s3, s4, s5, s6, s7⟩
            go_simp
            with_reducible rfl
          rotate_left
          · simp only [Act.put, List.setIfInBounds_toArray, List.set_cons_zero, List.set_cons_succ, i64_w, i32_w]
            rfl
          refine one_ (i := 1) (N := some 38) #[true, true, true, false, false, false, false] rfl rfl (by kernel_rfl) (by decide) (fun K hK => ?_)
          refine goes_ Try.func79 (by kernel_rfl) rfl #[.agg #[.int .i64 x.f0, .int .i64 x.f1, .string x.f2, .slice A x.f3.length c]] (by rfl) rfl rfl (by (try simp only [List.map_toArray, List.map_cons, List.map_nil]); first | done | rfl) ?_
          refine (size_calls 400000 (by omega) x Hh.out A c _ (Kd.C_below HA.out HK.below)).mono ?_
          rintro e w3 ⟨rfl, hb⟩
          refine ⟨_, rfl, ?_⟩
          replace HK := HK.step hb
          clear hb
          refine hK.out _ _ ⟨(blk_cell HK.bh 0).trans rfl, (blk_cell HK.bh 1).trans rfl, (blk_cell HK.bh 2).trans rfl, (blk_cell HK.bh 3).trans rfl, (blk_cell HK.bb 0).trans rfl, (blk_cell HK.bb 1).trans rfl, (blk_cell HK.bb 2).trans rfl, (blk_cell HK.bb 3).trans rfl⟩ (fun hHeld => ?_)
          clear hK K
          refine norm_ (a' := ?_) ?_ ?_
          rotate_left
          · show Act.put _ (some 38) _ = _
            simp only [Act.put, List.setIfInBounds_toArray, List.set_cons_zero, List.set_cons_succ, i64_w, i32_w]
            rfl
          refine one_ (i := 3) (N := some 40) #[true, true, true, true, false, false, false] rfl rfl (by kernel_rfl) (by decide) (fun K hK => ?_)
          refine goes_ Try.func79 (by kernel_rfl) rfl #[.agg #[.int .i64 y.f0, .int .i64 y.f1, .string y.f2, .slice B y.f3.length d]] (by rfl) rfl rfl (by (try simp only [List.map_toArray, List.map_cons, List.map_nil]); first | done | rfl) ?_
          refine (size_calls 400000 (by omega) y Hb.out B d _ (Kd.C_below HB.out HK.below)).mono ?_
          rintro e wq ⟨rfl, hb⟩
          refine ⟨_, rfl, ?_⟩
          replace HK := HK.step hb
          clear hb
          refine hK.out _ _ ⟨(blk_cell HK.bh 0).trans rfl, (blk_cell HK.bh 1).trans rfl, (blk_cell HK.bh 2).trans rfl, (blk_cell HK.bh 3).trans rfl, (blk_cell HK.bb 0).trans rfl, (blk_cell HK.bb 1).trans rfl, (blk_cell HK.bb 2).trans rfl, (blk_cell HK.bb 3).trans rfl⟩ (fun hHeld => ?_)
          clear hK K
          refine norm_ (a' := ?_) ?_ ?_
          rotate_left
          · show Act.put _ (some 40) _ = _
            simp only [Act.put, List.setIfInBounds_toArray, List.set_cons_zero, List.set_cons_succ, i64_w, i32_w]
            rfl
          have hw : wrap64 ((szT x : Int) + (szT y : Int)) = ((szT x + szT y : Nat) : Int) := by have := Hh.out; have := Hb.out; unfold wrap64; omega
          refine pure_ (i := 4) (N := some 41) (v := ?_) (a' := ?_) #[true, true, true, true, true, false, false] rfl rfl (by kernel_rfl) (fun _ _ _ h => h) (Or.inl ⟨by rfl, ?_⟩) ?_ ?_
          rotate_left
          · intro w'
            go_simp
            with_reducible rfl
          rotate_left
          · simp only [Act.put, List.setIfInBounds_toArray, List.set_cons_zero, List.set_cons_succ, i64_w, i32_w]
            rfl
          refine pure_ (i := 5) (N := some 42) (v := ?_) (a' := ?_) #[true, true, true, true, true, true, false] rfl rfl (by kernel_rfl) (fun _ _ _ h => h) (Or.inl ⟨by rfl, ?_⟩) ?_ ?_
          rotate_left
          · intro w'
            go_simp
            with_reducible rfl
          rotate_left
          · simp only [Act.put, List.setIfInBounds_toArray, List.set_cons_zero, List.set_cons_succ, i64_w, i32_w]
            rfl
          refine pure_ (i := 6) (N := some 36) (v := ?_) (a' := ?_) #[true, true, true, true, true, true, true] rfl rfl (by kernel_rfl) (fun _ _ _ h => h) (Or.inl ⟨by rfl, ?_⟩) ?_ ?_
          rotate_left
          · intro w'
            go_simp
            with_reducible rfl
          rotate_left
          · simp only [Act.put, List.setIfInBounds_toArray, List.set_cons_zero, List.set_cons_succ, i64_w, i32_w]
            rfl
          refine done_ (by kernel_rfl) ?_
          replace HK := Aside0.mk HK
          clear hHeld
          by_cases hlong : 20000 < szT x + szT y
          · have l1 : decide ((20000 : Int) < ((szT x + szT y : Nat) : Int)) = true := decide_eq_true (by omega)
            have l2 : (20000 : Int) < (szT x : Int) + (szT y : Int) := by omega
            have HKq := HK
            have HR : Aside0 (compR x y = (zCd, 3)) := ⟨by unfold compR; rw [if_neg (by simpa using hch.out), if_neg (by simpa using hcb.out), if_neg HKD.out, if_pos hlong]⟩
            have e0 := (blk_cell HKq.out.bz 0).trans rfl
            have e1 := (blk_cell HKq.out.bz 1).trans rfl
            have e2 := (blk_cell HKq.out.bz 2).trans rfl
            have e3 := (blk_cell HKq.out.bz 3).trans rfl
            have e4 := (blk_cell HKq.out.bz 4).trans rfl
            have z0 := blk_frozen HKq.out.bz 0
            have z1 := blk_frozen HKq.out.bz 1
            have z2 := blk_frozen HKq.out.bz 2
            have z3 := blk_frozen HKq.out.bz 3
            have z4 := blk_frozen HKq.out.bz 4
            go_wp2_with fail
            refine bodyPost_ret (results_ct rfl _ _ (w.heap.size + 2) 28 #[.string ⟨#[]⟩, .int .i64 0, .int .i64 0, .int .i64 0, .slice none 0 0] (0, 0) _ rfl (blk5 _ _ _ _ _ HKq.out.bz) Try.underlying28 rfl (by kernel_rfl)) rfl ?_
            rw [HR.out]
            refine ⟨none, 0, rfl, Nat.le_refl _, Kd.F_nil _ _ _, ((set5 wq (w.heap.size + 2) _ _ _ _ _).under HKq.out.below (Nat.le_refl _) (fun k hk => by omega))⟩
          · have l1 : decide ((20000 : Int) < ((szT x + szT y : Nat) : Int)) = false := decide_eq_false (by omega)
            have l2 : ¬ (20000 : Int) < (szT x : Int) + (szT y : Int) := by omega
            have HLo := Aside0.mk hlong
            clear hlong
            have hmm := @run_makeMap Try.prog
            have HS := CS.start wq
            have f0 := (blk_cell (HK.out.step HS.below).bh 0).trans rfl
            clear f0
            have f0 := (blk_cell (HK.out.step HS.below).bh 0).trans rfl
            have f1 := (blk_cell (HK.out.step HS.below).bh 1).trans rfl
            have f2 := (blk_cell (HK.out.step HS.below).bh 2).trans rfl
            have f3 := (blk_cell (HK.out.step HS.below).bh 3).trans rfl
            replace HS := Aside0.mk HS
            go_wp2_with fail
            clear hmm
            clear f0 f1 f2 f3
            generalize (((wq.alloc (.map #[] 0)).alloc (.map #[] 0)).alloc (.cells #[.slice none 0 0, .map (some wq.heap.size), .map (some (wq.heap.size + 1))] 142)) = w4 at *
            have hge : Aside0 (wq.heap.size ≤ wq.heap.size + 1 + 1) := ⟨by omega⟩
            obtain ⟨g, hg⟩ : ∃ g, g = wq.heap.size + 1 + 1 := ⟨_, rfl⟩
            obtain ⟨ms, hms⟩ : ∃ ms, ms = wq.heap.size + 1 := ⟨_, rfl⟩
            obtain ⟨mt, hmt⟩ : ∃ mt, mt = wq.heap.size := ⟨_, rfl⟩
            rw [← hg] at HS ⊢
            rw [← hms] at HS
            clear hg hms hmt mt
            refine (count_calls 400000 (by omega) x Hh.out A c wq w4 (Kd.C_below HA.out HK.out.below) g _ ms _ [] HS.out.ci).mono ?_
            rintro e w5 ⟨rfl, hI, hM⟩
            have HS5 := HS.out.count hM hI.tab
            clear hI hM HS
            have f0 := (blk_cell (HK.out.step HS5.below).bb 0).trans rfl
            have f1 := (blk_cell (HK.out.step HS5.below).bb 1).trans rfl
            have f2 := (blk_cell (HK.out.step HS5.below).bb 2).trans rfl
            have f3 := (blk_cell (HK.out.step HS5.below).bb 3).trans rfl
            replace HS5 := Aside0.mk HS5
            go_wp2_with fail
            clear f0 f1 f2 f3
            refine (count_calls 400000 (by omega) y Hb.out B d wq w5 (Kd.C_below HB.out HK.out.below) g _ ms _ _ HS5.out.ci).mono ?_
            rintro e w6 ⟨rfl, hI, hM⟩
            have HS6 := HS5.out.count hM hI.tab
            rw [cntHB_eq] at HS6
            clear hI hM HS5
            have f0 := (blk_cell (HK.out.step HS6.below).bh 0).trans rfl
            have f1 := (blk_cell (HK.out.step HS6.below).bh 1).trans rfl
            have f2 := (blk_cell (HK.out.step HS6.below).bh 2).trans rfl
            have f3 := (blk_cell (HK.out.step HS6.below).bh 3).trans rfl
            skip
            replace HS6 := Aside0.mk HS6
            go_wp2_with fail
            clear f0 f1 f2 f3
            go_loopw [57] (fun i wr => ∃ (k : Nat) (v1 : Value), i = .int .i64 k ∧ Aside0 (k ≤ x.f3.length) ∧ Aside0 (CS wq wr g wq.heap.size ms v1 (patL (cntHB x y) (x.f3.take k) ([], [])).1 (cntHB x y) (patL (cntHB x y) (x.f3.take k) ([], [])).2)) (fun i _ => x.f3.length - (intOf i).toNat)
            case atStart => exact ⟨0, _, rfl, ⟨by omega⟩, HS6⟩
            case round =>
                clear HS6
                obtain ⟨k, v1, rfl, hk, HS⟩ := hrel
                by_cases hlt : k < x.f3.length
                · have hlt2 : decide ((k : Int) < (x.f3.length : Int)) = true := decide_eq_true (by omega)
                  have hlt3 : decide (k < x.f3.length) = true := decide_eq_true hlt
                  obtain ⟨ad, E, d5, ead, e0, e1, e2, e3, hd5, hE⟩ := at_T58 (Kd.C_below HA.out HK.out.below) (k : Int) (by omega) (by omega)
                  have q0 := (HS.out.below.cell (World.block_lt_of_cell? wq _ e0)).trans e0
                  have q1 := (HS.out.below.cell (World.block_lt_of_cell? wq _ e1)).trans e1
                  have q2 := (HS.out.below.cell (World.block_lt_of_cell? wq _ e2)).trans e2
                  have q3 := (HS.out.below.cell (World.block_lt_of_cell? wq _ e3)).trans e3
                  have hy : Aside0 (szT (rd_T58 x.f3 k) ≤ 400000) := ⟨by have h1 := szL_rd _ _ hlt; have h2 := Hh.out; have h3 := szT_eq x; omega⟩
                  have Htk := Aside0.mk (patL_take (cntHB x y) x.f3 k hlt ([], []))
                  have Hll : Aside0 ((patL (cntHB x y) (x.f3.take k) ([], [])).1.length + szT (rd_T58 x.f3 k) ≤ 3000000) := ⟨by have h1 := patL_len (cntHB x y) (x.f3.take k) ([], []); have h2 := szL_take_rd x.f3 k hlt; have h3 := Hh.out; have h4 := szT_eq x; simp only [List.length_nil] at h1; omega⟩
                  have Hlt := Aside0.mk hlt
                  replace hE := Aside0.mk hE
                  subst ead
                  clear e0 e1 e2 e3 hd5
                  have HS1 := Aside0.mk (HS.out.step (below_alloc (Below.refl _ _) (.cells #[.int .i64 (rd_T58 x.f3 k).f0, .int .i64 (rd_T58 x.f3 k).f1, .string (rd_T58 x.f3 k).f2, .slice E (rd_T58 x.f3 k).f3.length d5] 58)))
                  clear HS
                  generalize patL (cntHB x y) (x.f3.take k) ([], []) = pk at *
                  generalize rd_T58 x.f3 k = z at *
                  simp only [Int.toNat_natCast] at q0 q1 q2 q3
                  go_wp2_with fail
                  refine (pattern_calls 400000 (by omega) z hy.out E d5 wq _ hE.out g _ ms v1 (cntHB x y) pk HS1.out Hll.out).mono ?_
                  rintro e w7 ⟨v3, rfl, hI7, hS7⟩
                  have HS7 := Aside0.mk hI7
                  clear hI7 hS7 HS1 q0 q1 q2 q3 hlt2 hlt3
                  go_wp2_with fail
                  go_roundw
                  case rel => exact ⟨k + 1, v3, by go_num, ⟨Hlt.out⟩, ⟨by rw [Htk.out]; exact HS7.out⟩⟩
                  case measure => have := Hlt.out; simp [intOf]; omega
                · have hlt2 : decide ((k : Int) < (x.f3.length : Int)) = false := decide_eq_false (by omega)
                  have hlt3 : decide (k < x.f3.length) = false := decide_eq_false hlt
                  obtain rfl : k = x.f3.length := by have := hk.out; omega
                  have HR : Aside0 (compR x y = (⟨x.f2, x.f3.length, (bodyC x y).2.length, (headR x y).1.length, (bodyC x y).1⟩, 0)) := ⟨by unfold compR; rw [if_neg (by simpa using hch.out), if_neg (by simpa using hcb.out), if_neg HKD.out, if_neg HLo.out]⟩
                  have HS2 : CS wq wr g wq.heap.size ms v1 (headR x y).1 (cntHB x y) (headR x y).2 := by have := HS.out; rw [List.take_length] at this; exact this
                  have Hhl : Aside0 ((headR x y).1.length + szT y ≤ 3000000) := ⟨by have h1 := patL_len (cntHB x y) x.f3 ([], []); have h3 := Hh.out; have h4 := szT_eq x; have h5 := Hb.out; simp only [List.length_nil] at h1; unfold headR; omega⟩
                  have HBC : Aside0 (patT (cntHB x y) y (headR x y) = bodyC x y) := ⟨rfl⟩
                  clear HS
                  generalize headR x y = p1 at *
                  obtain ⟨A1, c1, e1⟩ := Kd.N_slice HS2.row
                  subst e1
                  have g0 := (blk_cell HS2.box 0).trans rfl
                  have d0 := (blk_cell (HK.out.step HS2.below).bb 0).trans rfl
                  have d1 := (blk_cell (HK.out.step HS2.below).bb 1).trans rfl
                  have d2 := (blk_cell (HK.out.step HS2.below).bb 2).trans rfl
                  have d3 := (blk_cell (HK.out.step HS2.below).bb 3).trans rfl
                  replace HS2 := Aside0.mk HS2
                  go_wp2_with fail
                  clear g0 d0 d1 d2 d3
                  refine (pattern_calls 400000 (by omega) y Hb.out B d wq _ (Kd.C_below HB.out HK.out.below) g _ ms _ (cntHB x y) p1 HS2.out Hhl.out).mono ?_
                  rintro e w8 ⟨v4, rfl, HS8, hS8⟩
                  rw [HBC.out] at HS8
                  clear hS8 HS2
                  generalize bodyC x y = p2 at *
                  obtain ⟨A2, c2, e2⟩ := Kd.N_slice HS8.row
                  subst e2
                  replace HS8 := Aside0.mk HS8
                  go_wp2_with fail
                  replace HS8 := HS8.out
                  have HKe := HK.out.step HS8.below
                  refine start_ (n := 18) (S := (fun w' => w'.cell? ⟨w.heap.size, 0, none⟩ = some (.int .i64 x.f0) ∧ w'.cell? ⟨w.heap.size, 1, none⟩ = some (.int .i64 x.f1) ∧ w'.cell? ⟨w.heap.size, 2, none⟩ = some (.string x.f2) ∧ w'.cell? ⟨w.heap.size, 3, none⟩ = some (.slice A x.f3.length c) ∧ w'.cell? ⟨g, 0, none⟩ = some (.slice A2 p2.1.length c2) ∧ w'.cell? ⟨g, 1, none⟩ = some (.map (some wq.heap.size)) ∧ w'.cell? ⟨g, 2, none⟩ = some (.map (some ms)) ∧ Is iV iV w' ms p2.2)) (ds := [16]) #[false, false, false, false, false, false, false, false, false, false, false, false, false, false, false, false, false, false] (by kernel_rfl) rfl rfl ⟨(blk_cell (blk_drew HKe.bh) 0).trans rfl, (blk_cell (blk_drew HKe.bh) 1).trans rfl, (blk_cell (blk_drew HKe.bh) 2).trans rfl, (blk_cell (blk_drew HKe.bh) 3).trans rfl, (blk_cell (blk_drew HS8.box) 0).trans rfl, (blk_cell (blk_drew HS8.box) 1).trans rfl, (blk_cell (blk_drew HS8.box) 2).trans rfl, HS8.slots.mods (Mods.of_drew (fun _ => False) _) id⟩ (fun hHeld => ?_)
                  replace HS8 := HS8.step (below_drew (Below.refl _ _))
                  replace HKe := HKe.step (below_drew (Below.refl _ _))
                  generalize w8.drew = w9 at *
                  refine pure_ (i := 0) (N := some 73) (v := ?_) (a' := ?_) #[true, false, false, false, false, false, false, false, false, false, false, false, false, false, false, false, false, false] rfl rfl (by kernel_rfl) (fun _ _ _ h => h) (Or.inl ⟨by rfl, ?_⟩) ?_ ?_
                  rotate_left
                  · intro w'
                    go_simp
                    with_reducible rfl
                  rotate_left
                  · simp only [Act.put, List.setIfInBounds_toArray, List.set_cons_zero, List.set_cons_succ, i64_w, i32_w]
                    rfl
                  refine take_ (i := 1) (N := some 74) (v := ?_) (a' := ?_) #[true, true, false, false, false, false, false, false, false, false, false, false, false, false, false, false, false, false] rfl rfl (by kernel_rfl) (fun _ _ _ h => h) (Or.inl ⟨by rfl, ?_⟩) hHeld ?_ ?_
                  rotate_left
                  · rintro w' ⟨s0, s1, s2, s3, s4, s5, s6, s7⟩
                    go_simp
                    with_reducible rfl
                  rotate_left
                  · simp only [Act.put, List.setIfInBounds_toArray, List.set_cons_zero, List.set_cons_succ, i64_w, i32_w]
                    rfl
                  refine pure_ (i := 2) (N := some 75) (v := ?_) (a' := ?_) #[true, true, true, false, false, false, false, false, false, false, false, false, false, false, false, false, false, false] rfl rfl (by kernel_rfl) (fun _ _ _ h => h) (Or.inl ⟨by rfl, ?_⟩) ?_ ?_
                  rotate_left
                  · intro w'
                    go_simp
                    with_reducible rfl
                  rotate_left
                  · simp only [Act.put, List.setIfInBounds_toArray, List.set_cons_zero, List.set_cons_succ, i64_w, i32_w]
                    rfl
                  refine take_ (i := 3) (N := some 76) (v := ?_) (a' := ?_) #[true, true, true, true, false, false, false, false, false, false, false, false, false, false, false, false, false, false] rfl rfl (by kernel_rfl) (fun _ _ _ h => h) (Or.inl ⟨by rfl, ?_⟩) hHeld ?_ ?_
                  rotate_left
                  · rintro w' ⟨s0, s1, s2, s3, s4, s5, s6, s7⟩
                    go_simp
                    with_reducible rfl
                  rotate_left
                  · simp only [Act.put, List.setIfInBounds_toArray, List.set_cons_zero, List.set_cons_succ, i64_w, i32_w]
                    rfl
                  refine pure_ (i := 4) (N := some 77) (v := ?_) (a' := ?_) #[true, true, true, true, true, false, false, false, false, false, false, false, false, false, false, false, false, false] rfl rfl (by kernel_rfl) (fun _ _ _ h => h) (Or.inl ⟨by rfl, ?_⟩) ?_ ?_
                  rotate_left
                  · intro w'
                    go_simp
                    with_reducible rfl
                  rotate_left
                  · simp only [Act.put, List.setIfInBounds_toArray, List.set_cons_zero, List.set_cons_succ, i64_w, i32_w]
                    rfl
                  refine pure_ (i := 5) (N := some 78) (v := ?_) (a' := ?_) #[true, true, true, true, true, true, false, false, false, false, false, false, false, false, false, false, false, false] rfl rfl (by kernel_rfl) (fun _ _ _ h => h) (Or.inl ⟨by rfl, ?_⟩) ?_ ?_
                  rotate_left
                  · intro w'
                    go_simp
                    with_reducible rfl
                  rotate_left
                  · simp only [Act.put, List.setIfInBounds_toArray, List.set_cons_zero, List.set_cons_succ, i64_w, i32_w]
                    rfl
                  refine pure_ (i := 6) (N := some 79) (v := ?_) (a' := ?_) #[true, true, true, true, true, true, true, false, false, false, false, false, false, false, false, false, false, false] rfl rfl (by kernel_rfl) (fun _ _ _ h => h) (Or.inl ⟨by rfl, ?_⟩) ?_ ?_
                  rotate_left
                  · intro w'
                    go_simp
                    with_reducible rfl
                  rotate_left
                  · simp only [Act.put, List.setIfInBounds_toArray, List.set_cons_zero, List.set_cons_succ, i64_w, i32_w]
                    rfl
                  refine pure_ (i := 7) (N := some 80) (v := ?_) (a' := ?_) #[true, true, true, true, true, true, true, true, false, false, false, false, false, false, false, false, false, false] rfl rfl (by kernel_rfl) (fun _ _ _ h => h) (Or.inl ⟨by rfl, ?_⟩) ?_ ?_
                  rotate_left
                  · intro w'
                    go_simp
                    with_reducible rfl
                  rotate_left
                  · simp only [Act.put, List.setIfInBounds_toArray, List.set_cons_zero, List.set_cons_succ, i64_w, i32_w]
                    rfl
                  refine take_ (i := 8) (N := some 81) (v := ?_) (a' := ?_) #[true, true, true, true, true, true, true, true, true, false, false, false, false, false, false, false, false, false] rfl rfl (by kernel_rfl) (fun _ _ _ h => h) (Or.inl ⟨by rfl, ?_⟩) hHeld ?_ ?_
                  rotate_left
                  · rintro w' ⟨s0, s1, s2, s3, s4, s5, s6, s7⟩
                    go_simp
                    with_reducible rfl
                  rotate_left
                  · simp only [Act.put, List.setIfInBounds_toArray, List.set_cons_zero, List.set_cons_succ, i64_w, i32_w]
                    rfl
                  refine take_ (i := 9) (N := some 82) (v := ?_) (a' := ?_) #[true, true, true, true, true, true, true, true, true, true, false, false, false, false, false, false, false, false] rfl rfl (by kernel_rfl) (fun _ _ _ h => h) (Or.inl ⟨by rfl, ?_⟩) hHeld ?_ ?_
                  rotate_left
                  · rintro w' ⟨s0, s1, s2, s3, s4, s5, s6, hs_⟩
                    have hl_ := Is.lenI hs_ 3
                    clear hs_
                    go_simp
                    with_reducible rfl
                  rotate_left
                  · simp only [Act.put, List.setIfInBounds_toArray, List.set_cons_zero, List.set_cons_succ, i64_w, i32_w]
                    rfl
                  refine pure_ (i := 10) (N := some 83) (v := ?_) (a' := ?_) #[true, true, true, true, true, true, true, true, true, true, true, false, false, false, false, false, false, false] rfl rfl (by kernel_rfl) (fun _ _ _ h => h) (Or.inl ⟨by rfl, ?_⟩) ?_ ?_
                  rotate_left
                  · intro w'
                    go_simp
                    with_reducible rfl
                  rotate_left
                  · simp only [Act.put, List.setIfInBounds_toArray, List.set_cons_zero, List.set_cons_succ, i64_w, i32_w]
                    rfl
                  refine pure_ (i := 11) (N := some 84) (v := ?_) (a' := ?_) #[true, true, true, true, true, true, true, true, true, true, true, true, false, false, false, false, false, false] rfl rfl (by kernel_rfl) (fun _ _ _ h => h) (Or.inl ⟨by rfl, ?_⟩) ?_ ?_
                  rotate_left
                  · intro w'
                    go_simp
                    with_reducible rfl
                  rotate_left
                  · simp only [Act.put, List.setIfInBounds_toArray, List.set_cons_zero, List.set_cons_succ, i64_w, i32_w]
                    rfl
                  refine pure_ (i := 12) (N := some 85) (v := ?_) (a' := ?_) #[true, true, true, true, true, true, true, true, true, true, true, true, true, false, false, false, false, false] rfl rfl (by kernel_rfl) (fun _ _ _ h => h) (Or.inl ⟨by rfl, ?_⟩) ?_ ?_
                  rotate_left
                  · intro w'
                    go_simp
                    with_reducible rfl
                  rotate_left
                  · simp only [Act.put, List.setIfInBounds_toArray, List.set_cons_zero, List.set_cons_succ, i64_w, i32_w]
                    rfl
                  refine pure_ (i := 13) (N := some 86) (v := ?_) (a' := ?_) #[true, true, true, true, true, true, true, true, true, true, true, true, true, true, false, false, false, false] rfl rfl (by kernel_rfl) (fun _ _ _ h => h) (Or.inl ⟨by rfl, ?_⟩) ?_ ?_
                  rotate_left
                  · intro w'
                    go_simp
                    with_reducible rfl
                  rotate_left
                  · simp only [Act.put, List.setIfInBounds_toArray, List.set_cons_zero, List.set_cons_succ, i64_w, i32_w]
                    rfl
                  refine take_ (i := 14) (N := some 87) (v := ?_) (a' := ?_) #[true, true, true, true, true, true, true, true, true, true, true, true, true, true, true, false, false, false] rfl rfl (by kernel_rfl) (fun _ _ _ h => h) (Or.inl ⟨by rfl, ?_⟩) hHeld ?_ ?_
                  rotate_left
                  · rintro w' ⟨s0, s1, s2, s3, s4, s5, s6, s7⟩
                    go_simp
                    with_reducible rfl
                  rotate_left
                  · simp only [Act.put, List.setIfInBounds_toArray, List.set_cons_zero, List.set_cons_succ, i64_w, i32_w]
                    rfl
                  refine pure_ (i := 15) (N := some 88) (v := ?_) (a' := ?_) #[true, true, true, true, true, true, true, true, true, true, true, true, true, true, true, true, false, false] rfl rfl (by kernel_rfl) (fun _ _ _ h => h) (Or.inl ⟨by rfl, ?_⟩) ?_ ?_
                  rotate_left
                  · intro w'
                    go_simp
                    with_reducible rfl
                  rotate_left
                  · simp only [Act.put, List.setIfInBounds_toArray, List.set_cons_zero, List.set_cons_succ, i64_w, i32_w]
                    rfl
                  refine last_ (i := 16) (N := none) #[true, true, true, true, true, true, true, true, true, true, true, true, true, true, true, true, true, false] rfl rfl (by kernel_rfl) (by decide) (fun K hK => ?_)
                  refine skip_ (by rfl) rfl (w1 := ?_) ?_ ?_
                  rotate_left
                  · have z0 := blk_frozen HKe.bz 0
                    have z1 := blk_frozen HKe.bz 1
                    have z2 := blk_frozen HKe.bz 2
                    have z3 := blk_frozen HKe.bz 3
                    have z4 := blk_frozen HKe.bz 4
                    have y0 := (blk_cell HKe.bz 0).trans rfl
                    have y1 := (blk_cell HKe.bz 1).trans rfl
                    have y2 := (blk_cell HKe.bz 2).trans rfl
                    have y3 := (blk_cell HKe.bz 3).trans rfl
                    have y4 := (blk_cell HKe.bz 4).trans rfl
                    go_simp
                    rfl
                  refine hK.out _ _ ?_
                  clear hK K
                  refine pure_ (i := 17) (N := some 5) (v := ?_) (a' := ?_) #[true, true, true, true, true, true, true, true, true, true, true, true, true, true, true, true, true, true] rfl rfl (by kernel_rfl) (fun _ _ _ h => h) (Or.inl ⟨by rfl, ?_⟩) ?_ ?_
                  rotate_left
                  · intro w'
                    go_simp
                    with_reducible rfl
                  rotate_left
                  · simp only [Act.put, List.setIfInBounds_toArray, List.set_cons_zero, List.set_cons_succ, i64_w, i32_w]
                    rfl
                  refine done_ (by kernel_rfl) ?_
                  have HE : Aside0 (K41 w w9 x y A B c d ∧ CS wq w9 g wq.heap.size ms (.slice A2 p2.1.length c2) p2.1 (cntHB x y) p2.2) := ⟨⟨HKe, HS8⟩⟩
                  clear HS8 hHeld HKe
                  replace HK := Aside0.mk HK.out
                  go_wp2_with fail
                  refine bodyPost_ret (results_ct rfl _ _ (w.heap.size + 2) 28 #[.string x.f2, .int .i64 x.f3.length, .int .i64 p2.2.length, .int .i64 p1.1.length, .slice A2 p2.1.length c2] (0, 0) _ rfl (blk5 _ _ _ _ _ HE.out.1.bz) Try.underlying28 rfl (by kernel_rfl)) rfl ?_
                  rw [HR.out]
                  have hlz := blk_lt HK.out.bz
                  have hm5 := set5 w9 (w.heap.size + 2) (.string x.f2) (.int .i64 x.f3.length) (.int .i64 p2.2.length) (.int .i64 p1.1.length) (.slice A2 p2.1.length c2)
                  exact ⟨A2, c2, rfl, (Kd.N_reads' HE.out.2.row).2.1, Kd.F_mono (Kd.F_step (Kd.N_F HE.out.2.row) (fun q hq hl => hm5.block q hl (by have := hq.1; omega))) (fun q hq => by have := hq.1; omega), hm5.under HE.out.1.below (Nat.le_refl _) (fun k hk => by omega)⟩
        · have n3 : (x.f0 != 3) = true := by simp [h3]
          have n4 : (x.f0 != 4) = false := by simp [h3]
          clear h3
          go_wp2_with fail
          clear n3 n4 f0
          replace HK := HK.out
          clear HKq
          refine start_ (n := 7) (S := (fun w' => w'.cell? ⟨w.heap.size, 0, none⟩ = some (.int .i64 x.f0) ∧ w'.cell? ⟨w.heap.size, 1, none⟩ = some (.int .i64 x.f1) ∧ w'.cell? ⟨w.heap.size, 2, none⟩ = some (.string x.f2) ∧ w'.cell? ⟨w.heap.size, 3, none⟩ = some (.slice A x.f3.length c) ∧ w'.cell? ⟨(w.heap.size + 1), 0, none⟩ = some (.int .i64 y.f0) ∧ w'.cell? ⟨(w.heap.size + 1), 1, none⟩ = some (.int .i64 y.f1) ∧ w'.cell? ⟨(w.heap.size + 1), 2, none⟩ = some (.string y.f2) ∧ w'.cell? ⟨(w.heap.size + 1), 3, none⟩ = some (.slice B y.f3.length d))) (ds := []) #[false, false, false, false, false, false, false] (by kernel_rfl) rfl rfl ⟨(blk_cell (blk_drew HK.bh) 0).trans rfl, (blk_cell (blk_drew HK.bh) 1).trans rfl, (blk_cell (blk_drew HK.bh) 2).trans rfl, (blk_cell (blk_drew HK.bh) 3).trans rfl, (blk_cell (blk_drew HK.bb) 0).trans rfl, (blk_cell (blk_drew HK.bb) 1).trans rfl, (blk_cell (blk_drew HK.bb) 2).trans rfl, (blk_cell (blk_drew HK.bb) 3).trans rfl⟩ (fun hHeld => ?_)
          replace HK := HK.step (below_drew (Below.refl _ _))
          generalize wq.drew = w2 at *
          refine take_ (i := 0) (N := some 37) (v := ?_) (a' := ?_) #[true, false, false, false, false, false, false] rfl rfl (by kernel_rfl) (fun _ _ _ h => h) (Or.inl ⟨by rfl, ?_⟩) hHeld ?_ ?_
          rotate_left
          · rintro w' ⟨s0, s1, s2, s3, s4, s5, s6, s7⟩
            go_simp
            with_reducible rfl
          rotate_left
          · simp only [Act.put, List.setIfInBounds_toArray, List.set_cons_zero, List.set_cons_succ, i64_w, i32_w]
            rfl
          refine take_ (i := 2) (N := some 39) (v := ?_) (a' := ?_) #[true, false, true, false, false, false, false] rfl rfl (by kernel_rfl) (fun _ _ _ h => h) (Or.inl ⟨by rfl, ?_⟩) hHeld ?_ ?_
          rotate_left
          · rintro w' ⟨s0, s1, s2, s3, s4, s5, s6, s7⟩
            go_simp
            with_reducible rfl
          rotate_left
          · simp only [Act.put, List.setIfInBounds_toArray, List.set_cons_zero, List.set_cons_succ, i64_w, i32_w]
            rfl
          refine one_ (i := 1) (N := some 38) #[true, true, true, false, false, false, false] rfl rfl (by kernel_rfl) (by decide) (fun K hK => ?_)
          refine goes_ Try.func79 (by kernel_rfl) rfl #[.agg #[.int .i64 x.f0, .int .i64 x.f1, .string x.f2, .slice A x.f3.length c]] (by rfl) rfl rfl (by (try simp only [List.map_toArray, List.map_cons, List.map_nil]); first | done | rfl) ?_
          refine (size_calls 400000 (by omega) x Hh.out A c _ (Kd.C_below HA.out HK.below)).mono ?_
          rintro e w3 ⟨rfl, hb⟩
          refine ⟨_, rfl, ?_⟩
          replace HK := HK.step hb
          clear hb
          refine hK.out _ _ ⟨(blk_cell HK.bh 0).trans rfl, (blk_cell HK.bh 1).trans rfl, (blk_cell HK.bh 2).trans rfl, (blk_cell HK.bh 3).trans rfl, (blk_cell HK.bb 0).trans rfl, (blk_cell HK.bb 1).trans rfl, (blk_cell HK.bb 2).trans rfl, (blk_cell HK.bb 3).trans rfl⟩ (fun hHeld => ?_)
          clear hK K
          refine norm_ (a' := ?_) ?_ ?_
          rotate_left
          · show Act.put _ (some 38) _ = _
            simp only [Act.put, List.setIfInBounds_toArray, List.set_cons_zero, List.set_cons_succ, i64_w, i32_w]
            rfl
          refine one_ (i := 3) (N := some 40) #[true, true, true, true, false, false, false] rfl rfl (by kernel_rfl) (by decide) (fun K hK => ?_)
          refine goes_ Try.func79 (by kernel_rfl) rfl #[.agg #[.int .i64 y.f0, .int .i64 y.f1, .string y.f2, .slice B y.f3.length d]] (by rfl) rfl rfl (by (try simp only [List.map_toArray, List.map_cons, List.map_nil]); first | done | rfl) ?_
          refine (size_calls 400000 (by omega) y Hb.out B d _ (Kd.C_below HB.out HK.below)).mono ?_
          rintro e wq ⟨rfl, hb⟩
          refine ⟨_, rfl, ?_⟩
          replace HK := HK.step hb
          clear hb
          refine hK.out _ _ ⟨(blk_cell HK.bh 0).trans rfl, (blk_cell HK.bh 1).trans rfl, (blk_cell HK.bh 2).trans rfl, (blk_cell HK.bh 3).trans rfl, (blk_cell HK.bb 0).trans rfl, (blk_cell HK.bb 1).trans rfl, (blk_cell HK.bb 2).trans rfl, (blk_cell HK.bb 3).trans rfl⟩ (fun hHeld => ?_)
          clear hK K
          refine norm_ (a' := ?_) ?_ ?_
          rotate_left
          · show Act.put _ (some 40) _ = _
            simp only [Act.put, List.setIfInBounds_toArray, List.set_cons_zero, List.set_cons_succ, i64_w, i32_w]
            rfl
          have hw : wrap64 ((szT x : Int) + (szT y : Int)) = ((szT x + szT y : Nat) : Int) := by have := Hh.out; have := Hb.out; unfold wrap64; omega
          refine pure_ (i := 4) (N := some 41) (v := ?_) (a' := ?_) #[true, true, true, true, true, false, false] rfl rfl (by kernel_rfl) (fun _ _ _ h => h) (Or.inl ⟨by rfl, ?_⟩) ?_ ?_
          rotate_left
          · intro w'
            go_simp
            with_reducible rfl
          rotate_left
          · simp only [Act.put, List.setIfInBounds_toArray, List.set_cons_zero, List.set_cons_succ, i64_w, i32_w]
            rfl
          refine pure_ (i := 5) (N := some 42) (v := ?_) (a' := ?_) #[true, true, true, true, true, true, false] rfl rfl (by kernel_rfl) (fun _ _ _ h => h) (Or.inl ⟨by rfl, ?_⟩) ?_ ?_
          rotate_left
          · intro w'
            go_simp
            with_reducible rfl
          rotate_left
          · simp only [Act.put, List.setIfInBounds_toArray, List.set_cons_zero, List.set_cons_succ, i64_w, i32_w]
            rfl
          refine pure_ (i := 6) (N := some 36) (v := ?_) (a' := ?_) #[true, true, true, true, true, true, true] rfl rfl (by kernel_rfl) (fun _ _ _ h => h) (Or.inl ⟨by rfl, ?_⟩) ?_ ?_
          rotate_left
          · intro w'
            go_simp
            with_reducible rfl
          rotate_left
          · simp only [Act.put, List.setIfInBounds_toArray, List.set_cons_zero, List.set_cons_succ, i64_w, i32_w]
            rfl
          refine done_ (by kernel_rfl) ?_
          replace HK := Aside0.mk HK
          clear hHeld
          by_cases hlong : 20000 < szT x + szT y
          · have l1 : decide ((20000 : Int) < ((szT x + szT y : Nat) : Int)) = true := decide_eq_true (by omega)
            have l2 : (20000 : Int) < (szT x : Int) + (szT y : Int) := by omega
            have HKq := HK
            have HR : Aside0 (compR x y = (zCd, 3)) := ⟨by unfold compR; rw [if_neg (by simpa using hch.out), if_neg (by simpa using hcb.out), if_neg HKD.out, if_pos hlong]⟩
            have e0 := (blk_cell HKq.out.bz 0).trans rfl
            have e1 := (blk_cell HKq.out.bz 1).trans rfl
            have e2 := (blk_cell HKq.out.bz 2).trans rfl
            have e3 := (blk_cell HKq.out.bz 3).trans rfl
            have e4 := (blk_cell HKq.out.bz 4).trans rfl
            have z0 := blk_frozen HKq.out.bz 0
            have z1 := blk_frozen HKq.out.bz 1
            have z2 := blk_frozen HKq.out.bz 2
            have z3 := blk_frozen HKq.out.bz 3
            have z4 := blk_frozen HKq.out.bz 4
            go_wp2_with fail
            refine bodyPost_ret (results_ct rfl _ _ (w.heap.size + 2) 28 #[.string ⟨#[]⟩, .int .i64 0, .int .i64 0, .int .i64 0, .slice none 0 0] (0, 0) _ rfl (blk5 _ _ _ _ _ HKq.out.bz) Try.underlying28 rfl (by kernel_rfl)) rfl ?_
            rw [HR.out]
            refine ⟨none, 0, rfl, Nat.le_refl _, Kd.F_nil _ _ _, ((set5 wq (w.heap.size + 2) _ _ _ _ _).under HKq.out.below (Nat.le_refl _) (fun k hk => by omega))⟩
          · have l1 : decide ((20000 : Int) < ((szT x + szT y : Nat) : Int)) = false := decide_eq_false (by omega)
            have l2 : ¬ (20000 : Int) < (szT x : Int) + (szT y : Int) := by omega
            have HLo := Aside0.mk hlong
            clear hlong
            have hmm := @run_makeMap Try.prog
            have HS := CS.start wq
            have f0 := (blk_cell (HK.out.step HS.below).bh 0).trans rfl
            clear f0
            have f0 := (blk_cell (HK.out.step HS.below).bh 0).trans rfl
            have f1 := (blk_cell (HK.out.step HS.below).bh 1).trans rfl
            have f2 := (blk_cell (HK.out.step HS.below).bh 2).trans rfl
            have f3 := (blk_cell (HK.out.step HS.below).bh 3).trans rfl
            replace HS := Aside0.mk HS
            go_wp2_with fail
            clear hmm
            clear f0 f1 f2 f3
            generalize (((wq.alloc (.map #[] 0)).alloc (.map #[] 0)).alloc (.cells #[.slice none 0 0, .map (some wq.heap.size), .map (some (wq.heap.size + 1))] 142)) = w4 at *
            have hge : Aside0 (wq.heap.size ≤ wq.heap.size + 1 + 1) := ⟨by omega⟩
            obtain ⟨g, hg⟩ : ∃ g, g = wq.heap.size + 1 + 1 := ⟨_, rfl⟩
            obtain ⟨ms, hms⟩ : ∃ ms, ms = wq.heap.size + 1 := ⟨_, rfl⟩
            obtain ⟨mt, hmt⟩ : ∃ mt, mt = wq.heap.size := ⟨_, rfl⟩
            rw [← hg] at HS ⊢
            rw [← hms] at HS
            clear hg hms hmt mt
            refine (count_calls 400000 (by omega) x Hh.out A c wq w4 (Kd.C_below HA.out HK.out.below) g _ ms _ [] HS.out.ci).mono ?_
            rintro e w5 ⟨rfl, hI, hM⟩
            have HS5 := HS.out.count hM hI.tab
            clear hI hM HS
            have f0 := (blk_cell (HK.out.step HS5.below).bb 0).trans rfl
            have f1 := (blk_cell (HK.out.step HS5.below).bb 1).trans rfl
            have f2 := (blk_cell (HK.out.step HS5.below).bb 2).trans rfl
            have f3 := (blk_cell (HK.out.step HS5.below).bb 3).trans rfl
            replace HS5 := Aside0.mk HS5
            go_wp2_with fail
            clear f0 f1 f2 f3
            refine (count_calls 400000 (by omega) y Hb.out B d wq w5 (Kd.C_below HB.out HK.out.below) g _ ms _ _ HS5.out.ci).mono ?_
            rintro e w6 ⟨rfl, hI, hM⟩
            have HS6 := HS5.out.count hM hI.tab
            rw [cntHB_eq] at HS6
            clear hI hM HS5
            have f0 := (blk_cell (HK.out.step HS6.below).bh 0).trans rfl
            have f1 := (blk_cell (HK.out.step HS6.below).bh 1).trans rfl
            have f2 := (blk_cell (HK.out.step HS6.below).bh 2).trans rfl
            have f3 := (blk_cell (HK.out.step HS6.below).bh 3).trans rfl
            skip
            replace HS6 := Aside0.mk HS6
            go_wp2_with fail
            clear f0 f1 f2 f3
            go_loopw [57] (fun i wr => ∃ (k : Nat) (v1 : Value), i = .int .i64 k ∧ Aside0 (k ≤ x.f3.length) ∧ Aside0 (CS wq wr g wq.heap.size ms v1 (patL (cntHB x y) (x.f3.take k) ([], [])).1 (cntHB x y) (patL (cntHB x y) (x.f3.take k) ([], [])).2)) (fun i _ => x.f3.length - (intOf i).toNat)
            case atStart => exact ⟨0, _, rfl, ⟨by omega⟩, HS6⟩
            case round =>
                clear HS6
                obtain ⟨k, v1, rfl, hk, HS⟩ := hrel
                by_cases hlt : k < x.f3.length
                · have hlt2 : decide ((k : Int) < (x.f3.length : Int)) = true := decide_eq_true (by omega)
                  have hlt3 : decide (k < x.f3.length) = true := decide_eq_true hlt
                  obtain ⟨ad, E, d5, ead, e0, e1, e2, e3, hd5, hE⟩ := at_T58 (Kd.C_below HA.out HK.out.below) (k : Int) (by omega) (by omega)
                  have q0 := (HS.out.below.cell (World.block_lt_of_cell? wq _ e0)).trans e0
                  have q1 := (HS.out.below.cell (World.block_lt_of_cell? wq _ e1)).trans e1
                  have q2 := (HS.out.below.cell (World.block_lt_of_cell? wq _ e2)).trans e2
                  have q3 := (HS.out.below.cell (World.block_lt_of_cell? wq _ e3)).trans e3
                  have hy : Aside0 (szT (rd_T58 x.f3 k) ≤ 400000) := ⟨by have h1 := szL_rd _ _ hlt; have h2 := Hh.out; have h3 := szT_eq x; omega⟩
                  have Htk := Aside0.mk (patL_take (cntHB x y) x.f3 k hlt ([], []))
                  have Hll : Aside0 ((patL (cntHB x y) (x.f3.take k) ([], [])).1.length + szT (rd_T58 x.f3 k) ≤ 3000000) := ⟨by have h1 := patL_len (cntHB x y) (x.f3.take k) ([], []); have h2 := szL_take_rd x.f3 k hlt; have h3 := Hh.out; have h4 := szT_eq x; simp only [List.length_nil] at h1; omega⟩
                  have Hlt := Aside0.mk hlt
                  replace hE := Aside0.mk hE
                  subst ead
                  clear e0 e1 e2 e3 hd5
                  have HS1 := Aside0.mk (HS.out.step (below_alloc (Below.refl _ _) (.cells #[.int .i64 (rd_T58 x.f3 k).f0, .int .i64 (rd_T58 x.f3 k).f1, .string (rd_T58 x.f3 k).f2, .slice E (rd_T58 x.f3 k).f3.length d5] 58)))
                  clear HS
                  generalize patL (cntHB x y) (x.f3.take k) ([], []) = pk at *
                  generalize rd_T58 x.f3 k = z at *
                  simp only [Int.toNat_natCast] at q0 q1 q2 q3
                  go_wp2_with fail
                  refine (pattern_calls 400000 (by omega) z hy.out E d5 wq _ hE.out g _ ms v1 (cntHB x y) pk HS1.out Hll.out).mono ?_
                  rintro e w7 ⟨v3, rfl, hI7, hS7⟩
                  have HS7 := Aside0.mk hI7
                  clear hI7 hS7 HS1 q0 q1 q2 q3 hlt2 hlt3
                  go_wp2_with fail
                  go_roundw
                  case rel => exact ⟨k + 1, v3, by go_num, ⟨Hlt.out⟩, ⟨by rw [Htk.out]; exact HS7.out⟩⟩
                  case measure => have := Hlt.out; simp [intOf]; omega
                · have hlt2 : decide ((k : Int) < (x.f3.length : Int)) = false := decide_eq_false (by omega)
                  have hlt3 : decide (k < x.f3.length) = false := decide_eq_false hlt
                  obtain rfl : k = x.f3.length := by have := hk.out; omega
                  have HR : Aside0 (compR x y = (⟨x.f2, x.f3.length, (bodyC x y).2.length, (headR x y).1.length, (bodyC x y).1⟩, 0)) := ⟨by unfold compR; rw [if_neg (by simpa using hch.out), if_neg (by simpa using hcb.out), if_neg HKD.out, if_neg HLo.out]⟩
                  have HS2 : CS wq wr g wq.heap.size ms v1 (headR x y).1 (cntHB x y) (headR x y).2 := by have := HS.out; rw [List.take_length] at this; exact this
                  have Hhl : Aside0 ((headR x y).1.length + szT y ≤ 3000000) := ⟨by have h1 := patL_len (cntHB x y) x.f3 ([], []); have h3 := Hh.out; have h4 := szT_eq x; have h5 := Hb.out; simp only [List.length_nil] at h1; unfold headR; omega⟩
                  have HBC : Aside0 (patT (cntHB x y) y (headR x y) = bodyC x y) := ⟨rfl⟩
                  clear HS
                  generalize headR x y = p1 at *
                  obtain ⟨A1, c1, e1⟩ := Kd.N_slice HS2.row
                  subst e1
                  have g0 := (blk_cell HS2.box 0).trans rfl
                  have d0 := (blk_cell (HK.out.step HS2.below).bb 0).trans rfl
                  have d1 := (blk_cell (HK.out.step HS2.below).bb 1).trans rfl
                  have d2 := (blk_cell (HK.out.step HS2.below).bb 2).trans rfl
                  have d3 := (blk_cell (HK.out.step HS2.below).bb 3).trans rfl
                  replace HS2 := Aside0.mk HS2
                  go_wp2_with fail
                  clear g0 d0 d1 d2 d3
                  refine (pattern_calls 400000 (by omega) y Hb.out B d wq _ (Kd.C_below HB.out HK.out.below) g _ ms _ (cntHB x y) p1 HS2.out Hhl.out).mono ?_
                  rintro e w8 ⟨v4, rfl, HS8, hS8⟩
                  rw [HBC.out] at HS8
                  clear hS8 HS2
                  generalize bodyC x y = p2 at *
                  obtain ⟨A2, c2, e2⟩ := Kd.N_slice HS8.row
                  subst e2
                  replace HS8 := Aside0.mk HS8
                  go_wp2_with fail
                  replace HS8 := HS8.out
                  have HKe := HK.out.step HS8.below
                  refine start_ (n := 18) (S := (fun w' => w'.cell? ⟨w.heap.size, 0, none⟩ = some (.int .i64 x.f0) ∧ w'.cell? ⟨w.heap.size, 1, none⟩ = some (.int .i64 x.f1) ∧ w'.cell? ⟨w.heap.size, 2, none⟩ = some (.string x.f2) ∧ w'.cell? ⟨w.heap.size, 3, none⟩ = some (.slice A x.f3.length c) ∧ w'.cell? ⟨g, 0, none⟩ = some (.slice A2 p2.1.length c2) ∧ w'.cell? ⟨g, 1, none⟩ = some (.map (some wq.heap.size)) ∧ w'.cell? ⟨g, 2, none⟩ = some (.map (some ms)) ∧ Is iV iV w' ms p2.2)) (ds := [16]) #[false, false, false, false, false, false, false, false, false, false, false, false, false, false, false, false, false, false] (by kernel_rfl) rfl rfl ⟨(blk_cell (blk_drew HKe.bh) 0).trans rfl, (blk_cell (blk_drew HKe.bh) 1).trans rfl, (blk_cell (blk_drew HKe.bh) 2).trans rfl, (blk_cell (blk_drew HKe.bh) 3).trans rfl, (blk_cell (blk_drew HS8.box) 0).trans rfl, (blk_cell (blk_drew HS8.box) 1).trans rfl, (blk_cell (blk_drew HS8.box) 2).trans rfl, HS8.slots.mods (Mods.of_drew (fun _ => False) _) id⟩ (fun hHeld => ?_)
                  replace HS8 := HS8.step (below_drew (Below.refl _ _))
                  replace HKe := HKe.step (below_drew (Below.refl _ _))
                  generalize w8.drew = w9 at *
                  refine pure_ (i := 0) (N := some 73) (v := ?_) (a' := ?_) #[true, false, false, false, false, false, false, false, false, false, false, false, false, false, false, false, false, false] rfl rfl (by kernel_rfl) (fun _ _ _ h => h) (Or.inl ⟨by rfl, ?_⟩) ?_ ?_
                  rotate_left
                  · intro w'
                    go_simp
                    with_reducible rfl
                  rotate_left
                  · simp only [Act.put, List.setIfInBounds_toArray, List.set_cons_zero, List.set_cons_succ, i64_w, i32_w]
                    rfl
                  refine take_ (i := 1) (N := some 74) (v := ?_) (a' := ?_) #[true, true, false, false, false, false, false, false, false, false, false, false, false, false, false, false, false, false] rfl rfl (by kernel_rfl) (fun _ _ _ h => h) (Or.inl ⟨by rfl, ?_⟩) hHeld ?_ ?_
                  rotate_left
                  · rintro w' ⟨s0, s1, s2, s3, s4, s5, s6, s7⟩
                    go_simp
                    with_reducible rfl
                  rotate_left
                  · simp only [Act.put, List.setIfInBounds_toArray, List.set_cons_zero, List.set_cons_succ, i64_w, i32_w]
                    rfl
                  refine pure_ (i := 2) (N := some 75) (v := ?_) (a' := ?_) #[true, true, true, false, false, false, false, false, false, false, false, false, false, false, false, false, false, false] rfl rfl (by kernel_rfl) (fun _ _ _ h => h) (Or.inl ⟨by rfl, ?_⟩) ?_ ?_
                  rotate_left
                  · intro w'
                    go_simp
                    with_reducible rfl
                  rotate_left
                  · simp only [Act.put, List.setIfInBounds_toArray, List.set_cons_zero, List.set_cons_succ, i64_w, i32_w]
                    rfl
                  refine take_ (i := 3) (N := some 76) (v := ?_) (a' := ?_) #[true, true, true, true, false, false, false, false, false, false, false, false, false, false, false, false, false, false] rfl rfl (by kernel_rfl) (fun _ _ _ h => h) (Or.inl ⟨by rfl, ?_⟩) hHeld ?_ ?_
                  rotate_left
                  · rintro w' ⟨s0, s1, s2, s3, s4, s5, s6, s7⟩
                    go_simp
                    with_reducible rfl
                  rotate_left
                  · simp only [Act.put, List.setIfInBounds_toArray, List.set_cons_zero, List.set_cons_succ, i64_w, i32_w]
                    rfl
                  refine pure_ (i := 4) (N := some 77) (v := ?_) (a' := ?_) #[true, true, true, true, true, false, false, false, false, false, false, false, false, false, false, false, false, false] rfl rfl (by kernel_rfl) (fun _ _ _ h => h) (Or.inl ⟨by rfl, ?_⟩) ?_ ?_
                  rotate_left
                  · intro w'
                    go_simp
                    with_reducible rfl
                  rotate_left
                  · simp only [Act.put, List.setIfInBounds_toArray, List.set_cons_zero, List.set_cons_succ, i64_w, i32_w]
                    rfl
                  refine pure_ (i := 5) (N := some 78) (v := ?_) (a' := ?_) #[true, true, true, true, true, true, false, false, false, false, false, false, false, false, false, false, false, false] rfl rfl (by kernel_rfl) (fun _ _ _ h => h) (Or.inl ⟨by rfl, ?_⟩) ?_ ?_
                  rotate_left
                  · intro w'
                    go_simp
                    with_reducible rfl
                  rotate_left
                  · simp only [Act.put, List.setIfInBounds_toArray, List.set_cons_zero, List.set_cons_succ, i64_w, i32_w]
                    rfl
                  refine pure_ (i := 6) (N := some 79) (v := ?_) (a' := ?_) #[true, true, true, true, true, true, true, false, false, false, false, false, false, false, false, false, false, false] rfl rfl (by kernel_rfl) (fun _ _ _ h => h) (Or.inl ⟨by rfl, ?_⟩) ?_ ?_
                  rotate_left
                  · intro w'
                    go_simp
                    with_reducible rfl
                  rotate_left
                  · simp only [Act.put, List.setIfInBounds_toArray, List.set_cons_zero, List.set_cons_succ, i64_w, i32_w]
                    rfl
                  refine pure_ (i := 7) (N := some 80) (v := ?_) (a' := ?_) #[true, true, true, true, true, true, true, true, false, false, false, false, false, false, false, false, false, false] rfl rfl (by kernel_rfl) (fun _ _ _ h => h) (Or.inl ⟨by rfl, ?_⟩) ?_ ?_
                  rotate_left
                  · intro w'
                    go_simp
                    with_reducible rfl
                  rotate_left
                  · simp only [Act.put, List.setIfInBounds_toArray, List.set_cons_zero, List.set_cons_succ, i64_w, i32_w]
                    rfl
                  refine take_ (i := 8) (N := some 81) (v := ?_) (a' := ?_) #[true, true, true, true, true, true, true, true, true, false, false, false, false, false, false, false, false, false] rfl rfl (by kernel_rfl) (fun _ _ _ h => h) (Or.inl ⟨by rfl, ?_⟩) hHeld ?_ ?_
                  rotate_left
                  · rintro w' ⟨s0, s1, s2, s3, s4, s5, s6, s7⟩
                    go_simp
                    with_reducible rfl
                  rotate_left
                  · simp only [Act.put, List.setIfInBounds_toArray, List.set_cons_zero, List.set_cons_succ, i64_w, i32_w]
                    rfl
                  refine take_ (i := 9) (N := some 82) (v := ?_) (a' := ?_) #[true, true, true, true, true, true, true, true, true, true, false, false, false, false, false, false, false, false] rfl rfl (by kernel_rfl) (fun _ _ _ h => h) (Or.inl ⟨by rfl, ?_⟩) hHeld ?_ ?_
                  rotate_left
                  · rintro w' ⟨s0, s1, s2, s3, s4, s5, s6, hs_⟩
                    have hl_ := Is.lenI hs_ 3
                    clear hs_
                    go_simp
                    with_reducible rfl
                  rotate_left
                  · simp only [Act.put, List.setIfInBounds_toArray, List.set_cons_zero, List.set_cons_succ, i64_w, i32_w]
                    rfl
                  refine pure_ (i := 10) (N := some 83) (v := ?_) (a' := ?_) #[true, true, true, true, true, true, true, true, true, true, true, false, false, false, false, false, false, false] rfl rfl (by kernel_rfl) (fun _ _ _ h => h) (Or.inl ⟨by rfl, ?_⟩) ?_ ?_
                  rotate_left
                  · intro w'
                    go_simp
                    with_reducible rfl
                  rotate_left
                  · simp only [Act.put, List.setIfInBounds_toArray, List.set_cons_zero, List.set_cons_succ, i64_w, i32_w]
                    rfl
                  refine pure_ (i := 11) (N := some 84) (v := ?_) (a' := ?_) #[true, true, true, true, true, true, true, true, true, true, true, true, false, false, false, false, false, false] rfl rfl (by kernel_rfl) (fun _ _ _ h => h) (Or.inl ⟨by rfl, ?_⟩) ?_ ?_
                  rotate_left
                  · intro w'
                    go_simp
                    with_reducible rfl
                  rotate_left
                  · simp only [Act.put, List.setIfInBounds_toArray, List.set_cons_zero, List.set_cons_succ, i64_w, i32_w]
                    rfl
                  refine pure_ (i := 12) (N := some 85) (v := ?_) (a' := ?_) #[true, true, true, true, true, true, true, true, true, true, true, true, true, false, false, false, false, false] rfl rfl (by kernel_rfl) (fun _ _ _ h => h) (Or.inl ⟨by rfl, ?_⟩) ?_ ?_
                  rotate_left
                  · intro w'
                    go_simp
                    with_reducible rfl
                  rotate_left
                  · simp only [Act.put, List.setIfInBounds_toArray, List.set_cons_zero, List.set_cons_succ, i64_w, i32_w]
                    rfl
                  refine pure_ (i := 13) (N := some 86) (v := ?_) (a' := ?_) #[true, true, true, true, true, true, true, true, true, true, true, true, true, true, false, false, false, false] rfl rfl (by kernel_rfl) (fun _ _ _ h => h) (Or.inl ⟨by rfl, ?_⟩) ?_ ?_
                  rotate_left
                  · intro w'
                    go_simp
                    with_reducible rfl
                  rotate_left
                  · simp only [Act.put, List.setIfInBounds_toArray, List.set_cons_zero, List.set_cons_succ, i64_w, i32_w]
                    rfl
                  refine take_ (i := 14) (N := some 87) (v := ?_) (a' := ?_) #[true, true, true, true, true, true, true, true, true, true, true, true, true, true, true, false, false, false] rfl rfl (by kernel_rfl) (fun _ _ _ h => h) (Or.inl ⟨by rfl, ?_⟩) hHeld ?_ ?_
                  rotate_left
                  · rintro w' ⟨s0, s1, s2, s3, s4, s5, s6, s7⟩
                    go_simp
                    with_reducible rfl
                  rotate_left
                  · simp only [Act.put, List.setIfInBounds_toArray, List.set_cons_zero, List.set_cons_succ, i64_w, i32_w]
                    rfl
                  refine pure_ (i := 15) (N := some 88) (v := ?_) (a' := ?_) #[true, true, true, true, true, true, true, true, true, true, true, true, true, true, true, true, false, false] rfl rfl (by kernel_rfl) (fun _ _ _ h => h) (Or.inl ⟨by rfl, ?_⟩) ?_ ?_
                  rotate_left
                  · intro w'
                    go_simp
                    with_reducible rfl
                  rotate_left
                  · simp only [Act.put, List.setIfInBounds_toArray, List.set_cons_zero, List.set_cons_succ, i64_w, i32_w]
                    rfl
                  refine last_ (i := 16) (N := none) #[true, true, true, true, true, true, true, true, true, true, true, true, true, true, true, true, true, false] rfl rfl (by kernel_rfl) (by decide) (fun K hK => ?_)
                  refine skip_ (by rfl) rfl (w1 := ?_) ?_ ?_
                  rotate_left
                  · have z0 := blk_frozen HKe.bz 0
                    have z1 := blk_frozen HKe.bz 1
                    have z2 := blk_frozen HKe.bz 2
                    have z3 := blk_frozen HKe.bz 3
                    have z4 := blk_frozen HKe.bz 4
                    have y0 := (blk_cell HKe.bz 0).trans rfl
                    have y1 := (blk_cell HKe.bz 1).trans rfl
                    have y2 := (blk_cell HKe.bz 2).trans rfl
                    have y3 := (blk_cell HKe.bz 3).trans rfl
                    have y4 := (blk_cell HKe.bz 4).trans rfl
                    go_simp
                    rfl
                  refine hK.out _ _ ?_
                  clear hK K
                  refine pure_ (i := 17) (N := some 5) (v := ?_) (a' := ?_) #[true, true, true, true, true, true, true, true, true, true, true, true, true, true, true, true, true, true] rfl rfl (by kernel_rfl) (fun _ _ _ h => h) (Or.inl ⟨by rfl, ?_⟩) ?_ ?_
                  rotate_left
                  · intro w'
                    go_simp
                    with_reducible rfl
                  rotate_left
                  · simp only [Act.put, List.setIfInBounds_toArray, List.set_cons_zero, List.set_cons_succ, i64_w, i32_w]
                    rfl
                  refine done_ (by kernel_rfl) ?_
                  have HE : Aside0 (K41 w w9 x y A B c d ∧ CS wq w9 g wq.heap.size ms (.slice A2 p2.1.length c2) p2.1 (cntHB x y) p2.2) := ⟨⟨HKe, HS8⟩⟩
                  clear HS8 hHeld HKe
                  replace HK := Aside0.mk HK.out
                  go_wp2_with fail
                  refine bodyPost_ret (results_ct rfl _ _ (w.heap.size + 2) 28 #[.string x.f2, .int .i64 x.f3.length, .int .i64 p2.2.length, .int .i64 p1.1.length, .slice A2 p2.1.length c2] (0, 0) _ rfl (blk5 _ _ _ _ _ HE.out.1.bz) Try.underlying28 rfl (by kernel_rfl)) rfl ?_
                  rw [HR.out]
                  have hlz := blk_lt HK.out.bz
                  have hm5 := set5 w9 (w.heap.size + 2) (.string x.f2) (.int .i64 x.f3.length) (.int .i64 p2.2.length) (.int .i64 p1.1.length) (.slice A2 p2.1.length c2)
                  exact ⟨A2, c2, rfl, (Kd.N_reads' HE.out.2.row).2.1, Kd.F_mono (Kd.F_step (Kd.N_F HE.out.2.row) (fun q hq hl => hm5.block q hl (by have := hq.1; omega))) (fun q hq => by have := hq.1; omega), hm5.under HE.out.1.below (Nat.le_refl _) (fun k hk => by omega)⟩
end Go.Proofs.Ythdnaliahdohhaa.H
