/- Terms: a term in memory of its own (goal.own). -/
import Derived.Test.YthdnaliahdohhaaHx0
import Derived.Test.YthdnaliahdohhaaHMap
import Derived.WalkLawsBesides
import Derived.Deep.RegionHeld3
import Derived.Laws.EntriesVeiled
import Derived.Deep.WholeRow
namespace Go.Proofs.Ythdnaliahdohhaa.H
open Go.RowKit Go.Proofs.YthdnaliahdohhaaW.PrintWords Go.Proofs.YthdnaliahdohhaaW.PrintLast Go.Proofs.YthdnaliahdohhaaW.PrintMore Go.Proofs.Ythdnaliahdohhaa.Map
attribute [local go_sem] max2_int min2_int max_two min_two max_three min_three max_four min_four
set_option linter.unusedVariables false
set_option linter.unusedSimpArgs false
theorem k58_heap : Kd.Heap k58 := Kd.heap_fix (fun _ h_ => Kd.heap_iso _ (Kd.heap_pair (Kd.heap_int .i64) (Kd.heap_pair (Kd.heap_int .i64) (Kd.heap_pair Kd.heap_string (Kd.heap_slice 58 h_)))))
mutual
/-- how many parts -/
def szT : S58 → Nat
  | ⟨_, _, _, l⟩ => szL l + 1
def szL : List S58 → Nat
  | [] => 0
  | x :: l => szT x + szL l
end
theorem szL_mem : ∀ (l : List S58) (x : S58), x ∈ l → szT x ≤ szL l
  | y :: l, x, h => by
    rcases List.mem_cons.1 h with rfl | h
    · simp [szL]
    · have := szL_mem l x h; simp [szL]; omega
theorem szL_rd (l : List S58) (k : Nat) (h : k < l.length) : szT (rd_T58 l k) ≤ szL l := by
  refine szL_mem l _ ?_
  simp [rd_T58, h]
theorem szT_eq (x : S58) : szT x = szL x.f3 + 1 := by cases x; rfl
theorem szL_len : ∀ l : List S58, l.length ≤ szL l
  | [] => Nat.zero_le _
  | x :: l => by have := szL_len l; have := szT_eq x; simp [szL]; omega
theorem take_rd (l : List S58) (k : Nat) (h : k < l.length) : l.take (k + 1) = l.take k ++ [rd_T58 l k] := by
  rw [List.take_succ_eq_append_getElem h]; simp [rd_T58, h]
theorem set4 {w : World} {g : Nat} {t : TypeId} {a0 a1 a2 a3 : Value} (b0 b1 b2 b3 : Value) (h : w.heap[g]? = some (.cells #[a0, a1, a2, a3] t (0, 0))) :
    ((((w.setCell ⟨g, 0, none⟩ b0).setCell ⟨g, 1, none⟩ b1).setCell ⟨g, 2, none⟩ b2).setCell ⟨g, 3, none⟩ b3).heap[g]? = some (.cells #[b0, b1, b2, b3] t (0, 0)) ∧
    (∀ k, k ≠ g → ((((w.setCell ⟨g, 0, none⟩ b0).setCell ⟨g, 1, none⟩ b1).setCell ⟨g, 2, none⟩ b2).setCell ⟨g, 3, none⟩ b3).heap[k]? = w.heap[k]?) ∧
    ∀ (B : Nat) (w0 : World), Below B w0 w → B ≤ g → Below B w0 ((((w.setCell ⟨g, 0, none⟩ b0).setCell ⟨g, 1, none⟩ b1).setCell ⟨g, 2, none⟩ b2).setCell ⟨g, 3, none⟩ b3) := by
  refine ⟨?_, fun k hk => ?_, fun B w0 hb hB => ?_⟩
  · exact blk_put (cs := #[b0, b1, b2, a3]) (blk_put (cs := #[b0, b1, a2, a3]) (blk_put (cs := #[b0, a1, a2, a3]) (blk_put h 0 b0 rfl) 1 b1 rfl) 2 b2 rfl) 3 b3 rfl
  · rw [Below.heap_setCell _ _ _ _ hk, Below.heap_setCell _ _ _ _ hk, Below.heap_setCell _ _ _ _ hk, Below.heap_setCell _ _ _ _ hk]
  · exact (((hb.setCell (p := ⟨g, 0, none⟩) hB b0).setCell (p := ⟨g, 1, none⟩) hB b1).setCell (p := ⟨g, 2, none⟩) hB b2).setCell (p := ⟨g, 3, none⟩) hB b3
/-- a term's value: its fields, its row lies in ok -/
structure TV (w : World) (ok : Nat → Prop) (x : S58) (v : Value) : Prop where
  out : ∃ A c, v = .agg #[.int .i64 x.f0, .int .i64 x.f1, .string x.f2, .slice A x.f3.length c] ∧ x.f3.length ≤ c ∧ Kd.F k58 w ok A x.f3.length x.f3
set_option maxHeartbeats 8000000 in
set_option maxRecDepth 100000 in
theorem own_calls (n : Nat) (hn : n ≤ 1000000) : ∀ (x : S58) (hx : szT x ≤ n) (A : Option Addr) (c : Nat) (w : World) (hC : Kd.C k58 w A x.f3.length x.f3) (hc : x.f3.length ≤ c),
    Calls Try.prog 75 #[.agg #[.int .i64 x.f0, .int .i64 x.f1, .string x.f2, .slice A x.f3.length c]] w fun e w' => ∃ A' c', e = .returned (.agg #[.int .i64 x.f0, .int .i64 x.f1, .string x.f2, .slice A' x.f3.length c']) ∧ x.f3.length ≤ c' ∧ Kd.F k58 w' (fun k => w.heap.size ≤ k) A' x.f3.length x.f3 ∧ Below w.heap.size w w' := by
  induction n with
  | zero => intro x hx; have := szT_eq x; omega
  | succ n ih0 =>
  have ih := ih0 (by omega)
  clear ih0
  intro x hx A c w hC hc
  have HC := Aside0.mk hC
  have Hs : Aside0 (szL x.f3 ≤ 1000000) := ⟨by have := szT_eq x; omega⟩
  have Hc := Aside0.mk hc
  have Hx := Aside0.mk (show szL x.f3 ≤ n by have := szT_eq x; omega)
  clear hx hC hc
  have hlm : x.f3.length ≤ 9223372036854775807 := HC.out.2.1
  go_enter Try.func75, Try.ntmps75
  go_wp2_with fail
  have B0 : Below w.heap.size w ((w.alloc (.cells #[.int .i64 x.f0, .int .i64 x.f1, .string x.f2, .slice none 0 0] 58)).alloc (.cells #[.int .i64 0, .int .i64 0, .string ⟨#[]⟩, .slice none 0 0] 58)) := below_alloc (below_alloc (Below.refl _ _) _) _
  have K1 : ((w.alloc (.cells #[.int .i64 x.f0, .int .i64 x.f1, .string x.f2, .slice none 0 0] 58)).alloc (.cells #[.int .i64 0, .int .i64 0, .string ⟨#[]⟩, .slice none 0 0] 58)).heap[w.heap.size]? = some (.cells #[.int .i64 x.f0, .int .i64 x.f1, .string x.f2, .slice none 0 0] 58 (0, 0)) := blk_alloc (heap_alloc_new _ _) _
  have K2 : ((w.alloc (.cells #[.int .i64 x.f0, .int .i64 x.f1, .string x.f2, .slice none 0 0] 58)).alloc (.cells #[.int .i64 0, .int .i64 0, .string ⟨#[]⟩, .slice none 0 0] 58)).heap[w.heap.size + 1]? = some (.cells #[.int .i64 0, .int .i64 0, .string ⟨#[]⟩, .slice none 0 0] 58 (0, 0)) := by
    have := heap_alloc_new (w.alloc (.cells #[.int .i64 x.f0, .int .i64 x.f1, .string x.f2, .slice none 0 0] 58)) (.cells #[.int .i64 0, .int .i64 0, .string ⟨#[]⟩, .slice none 0 0] 58)
    simpa using this
  generalize (w.alloc (.cells #[.int .i64 x.f0, .int .i64 x.f1, .string x.f2, .slice none 0 0] 58)).alloc (.cells #[.int .i64 0, .int .i64 0, .string ⟨#[]⟩, .slice none 0 0] 58) = w1 at *
  have Hlm := Aside0.mk (Nat.le_trans (szL_len x.f3) Hs.out)
  obtain ⟨g1, hg1⟩ : ∃ g1, g1 = w.heap.size := ⟨_, rfl⟩
  obtain ⟨g2, hg2⟩ : ∃ g2, g2 = w.heap.size + 1 := ⟨_, rfl⟩
  rw [← hg1] at K1
  rw [← hg2] at K2
  rw [← hg2, ← hg1]
  have HG1 := Aside0.mk hg1
  have HG2 := Aside0.mk hg2
  clear hg1 hg2
  obtain ⟨OK, hOK⟩ : ∃ OK : Nat → Prop, OK = fun k => w.heap.size ≤ k ∧ k ≠ g1 ∧ k ≠ g2 := ⟨_, rfl⟩
  have HOK := Aside0.mk hOK
  clear hOK
  go_loopw [11] (fun i wr => ∃ (k : Nat) (v : Value), i = .int .i64 k ∧ Aside0 (k ≤ x.f3.length) ∧ Aside0 (Below w.heap.size w wr) ∧ Aside0 (wr.heap[g1]? = some (.cells #[.int .i64 x.f0, .int .i64 x.f1, .string x.f2, v] 58 (0, 0))) ∧ Aside0 (wr.heap[g2]? = some (.cells #[.int .i64 0, .int .i64 0, .string ⟨#[]⟩, .slice none 0 0] 58 (0, 0))) ∧ Aside0 (Kd.N k58 58 wr w.heap.size OK v (x.f3.take k))) (fun i _ => x.f3.length - (intOf i).toNat)
  case atStart => exact ⟨0, _, rfl, ⟨by omega⟩, ⟨B0⟩, ⟨K1⟩, ⟨K2⟩, ⟨Kd.N_nil _ _ _ _ _⟩⟩
  case round =>
    clear B0 K1 K2
    obtain ⟨k, v, rfl, hk, HB, BK1, BK2, HN⟩ := hrel
    by_cases hlt : k < x.f3.length
    · have hlt2 : decide ((k : Int) < (x.f3.length : Int)) = true := decide_eq_true (by omega)
      have hlt3 : decide (k < x.f3.length) = true := decide_eq_true hlt
      obtain ⟨ad, B, d, ead, e0, e1, e2, e3, hd, hB⟩ := at_T58 HC.out (k : Int) (by omega) (by omega)
      have q0 := (HB.out.cell (World.block_lt_of_cell? w _ e0)).trans e0
      have q1 := (HB.out.cell (World.block_lt_of_cell? w _ e1)).trans e1
      have q2 := (HB.out.cell (World.block_lt_of_cell? w _ e2)).trans e2
      have q3 := (HB.out.cell (World.block_lt_of_cell? w _ e3)).trans e3
      have hy : Aside0 (szT (rd_T58 x.f3 k) ≤ n) := ⟨Nat.le_trans (szL_rd _ _ hlt) Hx.out⟩
      have Htk := Aside0.mk (take_rd x.f3 k hlt)
      have Hlt := Aside0.mk hlt
      have hB := Aside0.mk (Kd.C_below hB HB.out)
      have hd := Aside0.mk hd
      subst ead
      clear e0 e1 e2 e3
      generalize rd_T58 x.f3 k = y at *
      simp only [Int.toNat_natCast] at q0 q1 q2 q3
      go_wp2_with fail
      clear q0 q1 q2 q3 hlt hlt2 hlt3
      have BK3 := heap_alloc_new wr (.cells #[.int .i64 y.f0, .int .i64 y.f1, .string y.f2, .slice B y.f3.length d] 58)
      have b4 : Below wr.heap.size wr (wr.alloc (.cells #[.int .i64 y.f0, .int .i64 y.f1, .string y.f2, .slice B y.f3.length d] 58)) := below_alloc (Below.refl _ _) _
      have hw4 : Aside0 (wr.heap.size < (wr.alloc (.cells #[.int .i64 y.f0, .int .i64 y.f1, .string y.f2, .slice B y.f3.length d] 58)).heap.size) := ⟨by simp⟩
      replace BK1 := blk_below BK1.out b4
      replace BK2 := blk_below BK2.out b4
      replace HB := below_step HB.out b4
      replace HN := Kd.N_below (Kd.N_bound HN.out) b4
      replace hB := Aside0.mk (Kd.C_below hB.out b4)
      generalize (wr.alloc (.cells #[.int .i64 y.f0, .int .i64 y.f1, .string y.f2, .slice B y.f3.length d] 58)) = w3 at *
      obtain ⟨g3, hg3⟩ : ∃ g3, g3 = wr.heap.size := ⟨_, rfl⟩
      rw [← hg3] at BK3 HN hw4 ⊢
      have hn3 : ¬ (OK g3 ∧ g3 < g3) := fun h => Nat.lt_irrefl _ h.2
      clear b4 hg3
      refine start_ (n := 8) (S := fun w' => w'.cell? ⟨g1, 3, none⟩ = some v ∧ w'.cell? ⟨g3, 0, none⟩ = some (.int .i64 y.f0) ∧ w'.cell? ⟨g3, 1, none⟩ = some (.int .i64 y.f1) ∧ w'.cell? ⟨g3, 2, none⟩ = some (.string y.f2) ∧ w'.cell? ⟨g3, 3, none⟩ = some (.slice B y.f3.length d)) (ds := [7]) #[false, false, false, false, false, false, false, false] (by kernel_rfl) rfl rfl ⟨(blk_cell (blk_drew BK1) 3).trans rfl, (blk_cell (blk_drew BK3) 0).trans rfl, (blk_cell (blk_drew BK3) 1).trans rfl, (blk_cell (blk_drew BK3) 2).trans rfl, (blk_cell (blk_drew BK3) 3).trans rfl⟩ (fun hHeld => ?_)
      replace BK1 := blk_drew BK1
      replace BK2 := blk_drew BK2
      replace BK3 := blk_drew BK3
      replace HB := HB.drew
      replace HN := Kd.N_drew HN
      replace hB := Aside0.mk (Kd.C_below hB.out (below_drew (Below.refl _ _)))
      have hw5 : Aside0 (g3 < w3.drew.heap.size) := hw4
      generalize w3.drew = w4 at *
      clear hw4
      refine pure_ (i := 0) (N := (some 15)) (v := ?_) (a' := ?_) #[true, false, false, false, false, false, false, false] rfl rfl (by kernel_rfl) (fun _ _ _ h => h) (Or.inl ⟨by rfl, ?_⟩) ?_ ?_
      rotate_left
      · intro w'
        go_simp
        with_reducible rfl
      rotate_left
      · simp only [Act.put, List.setIfInBounds_toArray, List.set_cons_zero, List.set_cons_succ, i64_w, i32_w]
        rfl
      refine take_ (i := 1) (N := (some 16)) (v := ?_) (a' := ?_) #[true, true, false, false, false, false, false, false] rfl rfl (by kernel_rfl) (fun _ _ _ h => h) (Or.inl ⟨by rfl, ?_⟩) hHeld ?_ ?_
      rotate_left
      · rintro w' ⟨s0, s1, s2, s3, s4⟩
        go_simp
        with_reducible rfl
      rotate_left
      · simp only [Act.put, List.setIfInBounds_toArray, List.set_cons_zero, List.set_cons_succ, i64_w, i32_w]
        rfl
      refine take_ (i := 2) (N := (some 17)) (v := ?_) (a' := ?_) #[true, true, true, false, false, false, false, false] rfl rfl (by kernel_rfl) (fun _ _ _ h => h) (Or.inl ⟨by rfl, ?_⟩) hHeld ?_ ?_
      rotate_left
      · rintro w' ⟨s0, s1, s2, s3, s4⟩
        go_simp
        with_reducible rfl
      rotate_left
      · simp only [Act.put, List.setIfInBounds_toArray, List.set_cons_zero, List.set_cons_succ, i64_w, i32_w]
        rfl
      refine one_ (i := 3) (N := (some 18)) #[true, true, true, true, false, false, false, false] rfl rfl (by kernel_rfl) (by decide) (fun K hK => ?_)
      refine goes_ Try.func75 (by kernel_rfl) rfl #[.agg #[.int .i64 y.f0, .int .i64 y.f1, .string y.f2, .slice B y.f3.length d]] (by rfl) rfl rfl (by (try simp only [List.map_toArray, List.map_cons, List.map_nil]); first | done | rfl) ?_
      refine (ih y hy.out B d _ hB.out hd.out).mono ?_
      rintro e w5 ⟨A5, c5, rfl, hl5, hF5, hb5⟩
      refine ⟨_, rfl, ?_⟩
      have k1 := blk_below BK1 hb5
      have k2 := blk_below BK2 hb5
      have k3 := blk_below BK3 hb5
      have hB5 := below_step HB hb5
      have HN5 := Kd.N_mono (Kd.N_old HN hb5) (ok' := OK) (fun _ hk => hk.1.1)
      have hsz := hb5.size
      have l1 := blk_lt BK1
      have l2 := blk_lt BK2
      have hfo : ∀ q, w4.heap.size ≤ q → OK q := by intro q hq; rw [HOK.out]; have := HB.size; refine ⟨by omega, by omega, by omega⟩
      have hlt4 := Kd.N_lt HN
      refine hK.out _ _ ⟨(blk_cell k1 3).trans rfl, (blk_cell k3 0).trans rfl, (blk_cell k3 1).trans rfl, (blk_cell k3 2).trans rfl, (blk_cell k3 3).trans rfl⟩ (fun hHeld => ?_)
      clear hK K
      refine norm_ (a' := ?_) ?_ ?_
      rotate_left
      · show Act.put _ (some 18) _ = _
        simp only [Act.put, List.setIfInBounds_toArray, List.set_cons_zero, List.set_cons_succ, i64_w, i32_w]
        rfl
      refine one_ (i := 4) (N := (some 19)) #[true, true, true, true, true, false, false, false] rfl rfl (by kernel_rfl) (by decide) (fun K hK => ?_)
      refine value_ (w1 := ?_) (v := ?_) (by rfl) rfl ?_ ?_
      rotate_left 2
      · go_simp
        constructor
        · rfl
        · rfl
      refine hK.out _ _ ⟨(blk_cell (blk_alloc k1 _) 3).trans rfl, (blk_cell (blk_alloc k3 _) 0).trans rfl, (blk_cell (blk_alloc k3 _) 1).trans rfl, (blk_cell (blk_alloc k3 _) 2).trans rfl, (blk_cell (blk_alloc k3 _) 3).trans rfl⟩ (fun hHeld => ?_)
      clear hK K
      refine norm_ (a' := ?_) ?_ ?_
      rotate_left
      · show Act.put _ (some 19) _ = _
        simp only [Act.put, List.setIfInBounds_toArray, List.set_cons_zero, List.set_cons_succ, i64_w, i32_w]
        rfl
      refine one_ (i := 5) (N := (some 20)) #[true, true, true, true, true, true, false, false] rfl rfl (by kernel_rfl) (by decide) (fun K hK => ?_)
      refine Kd.N_append_step k58 (w0 := w) w.heap.size (by rfl) (.tmp 16) (.tmp 19) 56 58 (.agg #[(.int .i64 0), (.int .i64 0), (.string ⟨#[]⟩), (.slice none 0 0)]) 56 rfl Try.underlying56 info58 rfl (by decide) (by omega) v (x.f3.take k) y [.int .i64 y.f0, .int .i64 y.f1, .string y.f2, .slice A5 y.f3.length c5] OK (fun k_ => w4.heap.size ≤ k_) rfl rfl (k58_mkF _ _ y hl5 hF5) ?aP ?aF HN5 hB5 ?aS ?aL ?_
      (case aP => exact fun q hq => ⟨hfo q hq, fun he => by have := hlt4 q he.symm; omega⟩)
      (case aF => exact fun q hq => hfo q (by omega))
      (case aS => exact hB5.size)
      (case aL => rw [List.length_take]; have := Hlm.out; omega)
      intro v1 w6 hN6 hB6 hg6 hat6
      obtain ⟨A6, c6, e6⟩ := Kd.N_slice hN6
      generalize (x.f3.take k ++ [y]).length = n6 at e6
      subst e6
      have hne1 : ∀ (g : Nat) (o : Obj), w5.heap[g]? = some o → ¬ OK g → w6.heap[g]? = some o := fun g o hg hno => (hg6.block g (Array.getElem?_eq_some_iff.1 hg).1 (fun he => hno (HN5.1 g he.symm))).trans hg
      have j1 := hne1 g1 _ k1 (by rw [HOK.out]; intro h; exact h.2.1 rfl)
      have j2 := hne1 g2 _ k2 (by rw [HOK.out]; intro h; exact h.2.2 rfl)
      have j3 : w6.heap[g3]? = some (.cells #[.int .i64 y.f0, .int .i64 y.f1, .string y.f2, .slice B y.f3.length d] 58 (0, 0)) := (hg6.block g3 (Array.getElem?_eq_some_iff.1 k3).1 (fun he => by exact hn3 (HN.1 g3 he.symm))).trans k3
      refine hK.out _ _ ⟨(blk_cell j1 3).trans rfl, (blk_cell j3 0).trans rfl, (blk_cell j3 1).trans rfl, (blk_cell j3 2).trans rfl, (blk_cell j3 3).trans rfl⟩ (fun hHeld => ?_)
      clear hK K
      refine norm_ (a' := ?_) ?_ ?_
      rotate_left
      · show Act.put _ (some 20) _ = _
        simp only [Act.put, List.setIfInBounds_toArray, List.set_cons_zero, List.set_cons_succ, i64_w, i32_w]
        rfl
      refine pure_ (i := 6) (N := (some 21)) (v := ?_) (a' := ?_) #[true, true, true, true, true, true, true, false] rfl rfl (by kernel_rfl) (fun _ _ _ h => h) (Or.inl ⟨by rfl, ?_⟩) ?_ ?_
      rotate_left
      · intro w'
        go_simp
        with_reducible rfl
      rotate_left
      · simp only [Act.put, List.setIfInBounds_toArray, List.set_cons_zero, List.set_cons_succ, i64_w, i32_w]
        rfl
      refine last_ (i := 7) (N := none) #[true, true, true, true, true, true, true, true] rfl rfl (by kernel_rfl) (by decide) (fun K hK => ?_)
      refine skip_ (by rfl) rfl (w1 := ?_) ?_ ?_
      rotate_left
      · have z1 := blk_frozen j1 3
        have z2 : w6.cell? ⟨g1, 3, none⟩ = some v := (blk_cell j1 3).trans rfl
        go_simp
        rfl
      refine hK.out _ _ ?_
      clear hK K
      refine done_ (by kernel_rfl) ?_
      have HB7 := Aside0.mk (hB6.setCell (p := ⟨g1, 3, none⟩) (by have := HG1.out; simp only; omega) (.slice A6 n6 c6))
      have J1 := Aside0.mk (blk_put (cs := #[.int .i64 x.f0, .int .i64 x.f1, .string x.f2, v]) j1 3 (.slice A6 n6 c6) rfl)
      have J2 := Aside0.mk (blk_far (p := ⟨g1, 3, none⟩) j2 (by have := HG1.out; have := HG2.out; simp only; omega) (.slice A6 n6 c6))
      have HN7 := Aside0.mk (Kd.N_far hN6 (p := ⟨g1, 3, none⟩) (fun q hq => by rw [HOK.out] at hq; exact hq.2.1) (.slice A6 n6 c6))
      have Hk := hk
      clear hk hB5 HN5 hN6 hB6 hg6 hat6 j1 j2 j3 k1 k2 k3 BK1 BK2 BK3 HB HN hB hHeld hne1 hfo hlt4 hF5 hb5 hsz l1 l2
      generalize w6.setCell ⟨g1, 3, none⟩ (.slice A6 n6 c6) = w7 at *
      have hkl : k < x.f3.length := Hlt.out
      go_wp2_with fail
      go_roundw
      case rel => exact ⟨k + 1, _, by go_num, ⟨by have := Hlt.out; omega⟩, HB7, J1, J2, ⟨by rw [Htk.out]; exact HN7.out⟩⟩
      case measure => have := Hlt.out; simp [intOf]; omega
    · have hlt2 : decide ((k : Int) < (x.f3.length : Int)) = false := decide_eq_false (by omega)
      have hlt3 : decide (k < x.f3.length) = false := decide_eq_false hlt
      obtain rfl : k = x.f3.length := by have := hk.out; omega
      have HN2 := Aside0.mk HN.out
      clear HN
      obtain ⟨A6, c6, e6⟩ := Kd.N_slice HN2.out
      rw [List.take_length] at e6 HN2
      subst e6
      have o0 : wr.cell? ⟨g1, 0, none⟩ = some (.int .i64 x.f0) := (blk_cell BK1.out 0).trans rfl
      have o1 : wr.cell? ⟨g1, 1, none⟩ = some (.int .i64 x.f1) := (blk_cell BK1.out 1).trans rfl
      have o2 : wr.cell? ⟨g1, 2, none⟩ = some (.string x.f2) := (blk_cell BK1.out 2).trans rfl
      have o3 : wr.cell? ⟨g1, 3, none⟩ = some (.slice A6 x.f3.length c6) := (blk_cell BK1.out 3).trans rfl
      have u0 : wr.cell? ⟨g2, 0, none⟩ = some (.int .i64 0) := (blk_cell BK2.out 0).trans rfl
      have u1 : wr.cell? ⟨g2, 1, none⟩ = some (.int .i64 0) := (blk_cell BK2.out 1).trans rfl
      have u2 : wr.cell? ⟨g2, 2, none⟩ = some (.string ⟨#[]⟩) := (blk_cell BK2.out 2).trans rfl
      have u3 : wr.cell? ⟨g2, 3, none⟩ = some (.slice none 0 0) := (blk_cell BK2.out 3).trans rfl
      have z0 := blk_frozen BK2.out 0
      have z1 := blk_frozen BK2.out 1
      have z2 := blk_frozen BK2.out 2
      have z3 := blk_frozen BK2.out 3
      go_wp2_with fail
      obtain ⟨s1, s2, s3⟩ := set4 (.int .i64 x.f0) (.int .i64 x.f1) (.string x.f2) (.slice A6 x.f3.length c6) BK2.out
      refine bodyPost_ret (results_cell_row rfl _ _ g2 58 #[.int .i64 x.f0, .int .i64 x.f1, .string x.f2, .slice A6 x.f3.length c6] (0, 0) _ rfl s1 Try.underlying58 rfl (by kernel_rfl)) rfl ?_
      exact ⟨A6, c6, rfl, (Kd.N_reads' HN2.out).2.1, Kd.F_mono (Kd.F_step (Kd.N_F HN2.out) (fun q hq _ => s2 q (by rw [HOK.out] at hq; exact hq.2.2))) (fun q hq => by rw [HOK.out] at hq; exact hq.1), s3 _ _ HB.out (by have := HG2.out; omega)⟩
end Go.Proofs.Ythdnaliahdohhaa.H
