/- GoalMany: the walk. -/
import Derived.Test.YthdnaliahdohhaaHHall
import Derived.Test.YthdnaliahdohhaaHHpureC
namespace Go.Proofs.Ythdnaliahdohhaa.H
open Go.RowKit Go.Proofs.YthdnaliahdohhaaW.PrintWords Go.Proofs.YthdnaliahdohhaaW.PrintLast Go.Proofs.YthdnaliahdohhaaW.PrintMore Go.Proofs.Ythdnaliahdohhaa.Map Go.Proofs.Ythdnaliahdohhaa.Reg
attribute [local go_sem] max2_int min2_int max_two min_two max_three min_three max_four min_four
set_option linter.unusedVariables false
set_option linter.unusedSimpArgs false
theorem at_parts {w : World} {A : Option Addr} {n : Nat} {ls : List (List S146)} (h : Kd.C (Kd.slice 146 k146) w A n ls) (k : Nat) (hk : k < n) : ∃ ad A' c', A = some ad ∧ w.cell? (ad.add k) = some (.slice A' (ls.getD k []).length c') ∧ (ls.getD k []).length ≤ c' ∧ Kd.C k146 w A' (ls.getD k []).length (ls.getD k []) := by
  obtain ⟨ad, c, e, _, hK, hc⟩ := Kd.C_get h [] (k : Int) (by omega) (by omega)
  obtain ⟨A', c', rfl, hl, hC⟩ := hK
  refine ⟨ad, A', c', e, ?_, hl, hC⟩
  have := hc 0 _ rfl
  simpa [Kd.slice] using this
/-- all the goals -/
def flatAll (ts : List S58) : List S58 := ts.flatMap (flatN 1000000)
/-- where the first loop stands -/
structure MInv (w wr : World) (ts : List S58) (o f : Value) : Prop where
  below : Below w.heap.size w wr
  all : ∀ z ∈ ts, allM z = true ∧ szT z ≤ 500
  own : Kd.N k58 58 wr w.heap.size (fun k => w.heap.size ≤ k ∧ some k ≠ f.ownBlock) o ts
  flat : Kd.N k58 58 wr w.heap.size (fun k => w.heap.size ≤ k ∧ some k ≠ o.ownBlock) f (flatAll ts)
theorem fm_len : ∀ (ts : List S58), (∀ z ∈ ts, allM z = true ∧ szT z ≤ 500) → (flatAll ts).length ≤ 500 * ts.length
  | [], _ => by simp [flatAll]
  | x :: ts, h => by
    have h1 := fm_len ts (fun z hz => h z (List.mem_cons_of_mem _ hz))
    have h2 := (h x (List.mem_cons_self ..)).2
    have h3 := flatN_len 1000000 x
    unfold flatAll at *
    rw [List.flatMap_cons, List.length_append, List.length_cons]
    omega
theorem MInv.start {w wr : World} (h : Below w.heap.size w wr) : MInv w wr [] (.slice none 0 0) (.slice none 0 0) :=
  ⟨h, fun _ hz => by simp at hz, Kd.N_nil _ _ _ _ _, Kd.N_nil _ _ _ _ _⟩
theorem MInv.step {w wr w1 : World} {ts : List S58} {o f : Value} (h : MInv w wr ts o f) (hb : Below wr.heap.size wr w1) : MInv w w1 ts o f :=
  ⟨below_step h.below hb, h.all, Kd.N_below h.own hb, Kd.N_below h.flat hb⟩
theorem m_other {W w1 : World} {base : Nat} {xs : List S58} {u v v1 : Value} (h : Kd.N k58 58 W base (fun k => base ≤ k ∧ some k ≠ v.ownBlock) u xs) (hg : W.grownBy w1 v.ownBlock) (hat : v1.ownBlock = v.ownBlock ∨ ∃ b, v1.ownBlock = some b ∧ W.heap.size ≤ b) : Kd.N k58 58 w1 base (fun k => base ≤ k ∧ some k ≠ v1.ownBlock) u xs := by
  refine Kd.N_mono (Kd.N_step (Kd.N_bound h) (fun k hk hlk => hg.block k hlk hk.1.2)) (fun k hk => ⟨hk.1.1, fun he => ?_⟩)
  rcases hat with h | ⟨b, h, hb⟩
  · rw [h] at he; exact hk.1.2 he
  · rw [h] at he; injection he with he; have := hk.2; omega
/-- goals put together from the left -/
def leftN (ts : List S58) : Nat → S58
  | 0 => rd_T58 ts (0 : Nat)
  | j + 1 => tAnd2 (leftN ts j) (rd_T58 ts ((j + 1 : Nat) : Int))
/-- from the right -/
def rightN (ts : List S58) (m : Nat) : Nat → S58
  | 0 => rd_T58 ts (m : Nat)
  | j + 1 => tAnd2 (rd_T58 ts ((m - (j + 1) : Nat) : Int)) (rightN ts m j)
/-- where the second loop stands -/
structure LS (ts : List S58) (m : Nat) (wr : World) (g8 g9 j : Nat) (wl : World) : Prop where
  out : ∃ A8 c8 A9 c9, wl.heap[g8]? = some (.cells #[.int .i64 (leftN ts j).f0, .int .i64 (leftN ts j).f1, .string (leftN ts j).f2, .slice A8 (leftN ts j).f3.length c8] 58 (0, 0)) ∧ wl.heap[g9]? = some (.cells #[.int .i64 (rightN ts m j).f0, .int .i64 (rightN ts m j).f1, .string (rightN ts m j).f2, .slice A9 (rightN ts m j).f3.length c9] 58 (0, 0)) ∧ (leftN ts j).f3.length ≤ c8 ∧ (rightN ts m j).f3.length ≤ c9 ∧ Kd.F k58 wl (fun q => q ≠ g8 ∧ q ≠ g9) A8 (leftN ts j).f3.length (leftN ts j).f3 ∧ Kd.F k58 wl (fun q => q ≠ g8 ∧ q ≠ g9) A9 (rightN ts m j).f3.length (rightN ts m j).f3 ∧ Below wr.heap.size wr wl
/-- two fresh cells of a term -/
structure Two (w w' : World) (g h : Nat) : Prop where
  ne : g ≠ h
  lg : w.heap.size ≤ g
  lh : w.heap.size ≤ h
  bg : w'.heap[g]? = some (.cells #[.int .i64 0, .int .i64 0, .string ⟨#[]⟩, .slice none 0 0] 58 (0, 0))
  bh : w'.heap[h]? = some (.cells #[.int .i64 0, .int .i64 0, .string ⟨#[]⟩, .slice none 0 0] 58 (0, 0))
  below : Below w.heap.size w w'
theorem two_ab (w : World) : Two w ((w.alloc (.cells #[.int .i64 0, .int .i64 0, .string ⟨#[]⟩, .slice none 0 0] 58)).alloc (.cells #[.int .i64 0, .int .i64 0, .string ⟨#[]⟩, .slice none 0 0] 58)) w.heap.size (w.heap.size + 1) :=
  ⟨by omega, Nat.le_refl _, by omega, blk_alloc (heap_alloc_new _ _) _, by have := heap_alloc_new (w.alloc (.cells #[.int .i64 0, .int .i64 0, .string ⟨#[]⟩, .slice none 0 0] 58)) (.cells #[.int .i64 0, .int .i64 0, .string ⟨#[]⟩, .slice none 0 0] 58); simpa using this, below_alloc (below_alloc (Below.refl _ _) _) _⟩
theorem two_ba (w : World) : Two w ((w.alloc (.cells #[.int .i64 0, .int .i64 0, .string ⟨#[]⟩, .slice none 0 0] 58)).alloc (.cells #[.int .i64 0, .int .i64 0, .string ⟨#[]⟩, .slice none 0 0] 58)) (w.heap.size + 1) w.heap.size :=
  ⟨by omega, by omega, Nat.le_refl _, (two_ab w).bh, (two_ab w).bg, (two_ab w).below⟩
theorem flatAll_app (a b : List S58) : flatAll (a ++ b) = flatAll a ++ flatAll b := by unfold flatAll; rw [List.flatMap_append]
theorem and_flat {a b : S58} (ha : szT a ≤ 900000) (hb : szT b ≤ 900000) : flatN 1000000 (tAnd2 a b) = flatN 1000000 a ++ flatN 1000000 b := by
  rw [flat_and 999999, flat_fuel 999999 1000000 a (by omega) (by omega), flat_fuel 999999 1000000 b (by omega) (by omega)]
theorem left_law (ts : List S58) (h : ∀ z ∈ ts, allM z = true ∧ szT z ≤ 500) (hl : ts.length ≤ 12) : ∀ j, j < ts.length → szT (leftN ts j) ≤ 501 * (j + 1) ∧ flatN 1000000 (leftN ts j) = flatAll (ts.take (j + 1))
  | 0, hj => by
    have h1 := h _ (rd_mem hj)
    refine ⟨by have := h1.2; simp only [leftN]; omega, ?_⟩
    rw [take_rd ts 0 hj]
    simp [leftN, flatAll]
  | j + 1, hj => by
    obtain ⟨h1, h2⟩ := left_law ts h hl j (by omega)
    have h3 := (h _ (rd_mem hj)).2
    simp only [leftN]
    refine ⟨by rw [and_sz]; omega, ?_⟩
    rw [and_flat (by omega) (by omega), h2, take_rd ts (j + 1) hj, flatAll_app]
    simp [flatAll]
theorem right_law (ts : List S58) (h : ∀ z ∈ ts, allM z = true ∧ szT z ≤ 500) (m : Nat) (hm : ts.length = m + 1) (hl : m ≤ 11) : ∀ j, j ≤ m → szT (rightN ts m j) ≤ 501 * (j + 1) ∧ flatN 1000000 (rightN ts m j) = flatAll (ts.drop (m - j))
  | 0, hj => by
    have hlt : m < ts.length := by omega
    have h1 := h _ (rd_mem hlt)
    refine ⟨by have := h1.2; simp only [rightN]; omega, ?_⟩
    have : ts.drop m = [rd_T58 ts (m : Nat)] := by
      rw [List.drop_eq_getElem_cons hlt, List.drop_eq_nil_of_le (by omega)]
      simp [rd_T58, hlt]
    rw [Nat.sub_zero, this]
    simp [rightN, flatAll]
  | j + 1, hj => by
    obtain ⟨h1, h2⟩ := right_law ts h m hm hl j (by omega)
    have hlt : m - (j + 1) < ts.length := by omega
    have h3 := (h _ (rd_mem hlt)).2
    simp only [rightN]
    refine ⟨by rw [and_sz]; omega, ?_⟩
    have : ts.drop (m - (j + 1)) = rd_T58 ts ((m - (j + 1) : Nat) : Int) :: ts.drop (m - j) := by
      rw [List.drop_eq_getElem_cons hlt, show m - (j + 1) + 1 = m - j by omega]
      simp [rd_T58, hlt]
    rw [and_flat (by omega) (by omega), h2, this]
    simp [flatAll]
theorem flatAll_sz {ts : List S58} (h : ∀ z ∈ ts, allM z = true ∧ szT z ≤ 500) : ∀ z ∈ flatAll ts, szT z ≤ 1000000 := by
  intro z hz
  obtain ⟨x, hx, hz⟩ := List.mem_flatMap.1 hz
  have := flat_szs _ _ z hz
  have := (h x hx).2
  omega
set_option maxHeartbeats 8000000 in
set_option maxRecDepth 100000 in
theorem gm_0 (ls : List (List S146)) (A : Option Addr) (c : Nat) (w : World) (hC : Kd.C (Kd.slice 146 k146) w A ls.length ls) (hn : ls.length = 0) :
    Calls Try.prog 10 #[.slice A ls.length c] w fun e w' => e = .returned (.bool true) ∧ Below w.heap.size w w' := by
  have HB := Below.refl w.heap.size w
  clear hC
  have n1 : ((ls.length : Int) == 0) = true := by simpa using hn
  have n0 : (ls.length : Int) = 0 := by omega
  replace hn := Aside0.mk hn
  go_enter Try.func10, Try.ntmps10
  replace HB := Aside0.mk HB
  go_wp2_with fail
  replace HB := HB.out
  refine (alive_calls _).mono ?_
  rintro e w1 ⟨rfl, hb⟩
  replace HB := below_step HB hb
  clear hb
  replace HB := Aside0.mk HB
  go_wp2_with fail
  replace HB := HB.out
  go_ret
  exact ⟨rfl, HB⟩
set_option maxHeartbeats 8000000 in
set_option maxRecDepth 100000 in
theorem gm_13 (ls : List (List S146)) (A : Option Addr) (c : Nat) (w : World) (hC : Kd.C (Kd.slice 146 k146) w A ls.length ls) (hn : 12 < ls.length) :
    Calls Try.prog 10 #[.slice A ls.length c] w fun e w' => e = .returned (.bool true) ∧ Below w.heap.size w w' := by
  have HB := Below.refl w.heap.size w
  clear hC
  have n1 : ((ls.length : Int) == 0) = false := by simpa using (by omega : ¬ (ls.length : Int) = 0)
  have n2 : decide ((12 : Int) < (ls.length : Int)) = true := decide_eq_true (by omega)
  have n3 : (12 : Int) < (ls.length : Int) := by omega
  have n4 : decide (ls.length = 0) = false := decide_eq_false (by omega)
  have n5 : ¬ ls.length = 0 := by omega
  replace hn := Aside0.mk hn
  go_enter Try.func10, Try.ntmps10
  replace HB := Aside0.mk HB
  go_wp2_with fail
  replace HB := HB.out
  refine (alive_calls _).mono ?_
  rintro e w1 ⟨rfl, hb⟩
  replace HB := below_step HB hb
  clear hb
  replace HB := Aside0.mk HB
  go_wp2_with fail
  replace HB := HB.out
  go_ret
  exact ⟨rfl, HB⟩
set_option maxHeartbeats 8000000 in
set_option maxRecDepth 100000 in
theorem gm_walk (ls : List (List S146)) (A : Option Addr) (c : Nat) (w : World) (hC : Kd.C (Kd.slice 146 k146) w A ls.length ls) (hn : ¬ ls.length = 0) (hn2 : ¬ 12 < ls.length) :
    Calls Try.prog 10 #[.slice A ls.length c] w fun e w' => e = .returned (.bool true) ∧ Below w.heap.size w w' := by
  have HB := Below.refl w.heap.size w
  have HC := Aside0.mk hC
  clear hC
  have n1 : ((ls.length : Int) == 0) = false := by simpa using (by omega : ¬ (ls.length : Int) = 0)
  have n2 : decide ((12 : Int) < (ls.length : Int)) = false := decide_eq_false (by omega)
  have n3 : ¬ (12 : Int) < (ls.length : Int) := by omega
  have n4 : decide (ls.length = 0) = false := decide_eq_false (by omega)
  have n5 : ¬ ls.length = 0 := by omega
  have hlm : ls.length ≤ 12 := by omega
  go_enter Try.func10, Try.ntmps10
  replace HB := Aside0.mk HB
  go_wp2_with fail
  replace HB := HB.out
  refine (alive_calls _).mono ?_
  rintro e w1 ⟨rfl, hb⟩
  replace HB := below_step HB hb
  clear hb
  replace HB := Aside0.mk HB
  go_wp2_with fail
  replace HB := HB.out
  replace HB := Aside0.mk HB
  clear n1 n2 n3 n4 hn hn2
  go_loopw [23, 3, 4] (fun i o f wr => ∃ (k : Nat) (ts : List S58), i = .int .i64 k ∧ Aside0 (k ≤ ls.length) ∧ Aside0 (ts.length = k) ∧ Aside0 (MInv w wr ts o f)) (fun i _ _ _ => ls.length - (intOf i).toNat)
  case atStart => exact ⟨0, [], rfl, ⟨by omega⟩, ⟨rfl⟩, ⟨MInv.start HB.out⟩⟩
  case round =>
    clear HB
    obtain ⟨k, ts, rfl, hk, hts, HM⟩ := hrel
    by_cases hlt : k < ls.length
    · have hlt2 : decide ((k : Int) < (ls.length : Int)) = true := decide_eq_true (by omega)
      have hlt3 : decide (k < ls.length) = true := decide_eq_true hlt
      obtain ⟨ad, Ap, cp, ead, e0, hlp, hCp⟩ := at_parts HC.out k hlt
      subst ead
      replace e0 := ck HM.out.below e0
      replace hCp := Aside0.mk (Kd.C_below hCp HM.out.below)
      replace hlp := Aside0.mk hlp
      generalize ls.getD k [] = p at *
      obtain ⟨Ao, co, eo⟩ := Kd.N_slice HM.out.own
      obtain ⟨Af, cf, ef⟩ := Kd.N_slice HM.out.flat
      subst eo
      subst ef
      by_cases hgr : 60 < p.length
      · have HG : Aside0 (decide (60 < p.length) = true) := ⟨by simpa using hgr⟩
        go_wp2_with fail
        refine (great_calls p Ap cp _).mono ?_
        rw [HG.out]
        rintro e w2 ⟨rfl, hb⟩
        have HB2 := Aside0.mk (below_step HM.out.below hb)
        clear hb
        go_wp2_with fail
        go_ret
        exact ⟨rfl, HB2.out⟩
      have HG : Aside0 (decide (60 < p.length) = false) := ⟨by simpa using hgr⟩
      obtain ⟨t, ht, hst, hgood⟩ := good_ok p (by omega)
      replace ht := Aside0.mk ht
      replace hst := Aside0.mk hst
      replace hgood := Aside0.mk hgood
      clear hgr
      go_wp2_with fail
      refine (great_calls p Ap cp _).mono ?_
      rw [HG.out]
      rintro e w2 ⟨rfl, hb⟩
      have HM2 := Aside0.mk (HM.out.step hb)
      have hall := Aside0.mk HM.out.all
      have hszw := Aside0.mk HM2.out.below.size
      replace hCp := Aside0.mk (Kd.C_below hCp.out hb)
      have hszr := hb.size
      have hltO := Kd.N_lt HM.out.own
      have hltF := Kd.N_lt HM.out.flat
      replace hltO := Aside0.mk hltO
      replace hltF := Aside0.mk hltF
      replace hszr := Aside0.mk hszr
      clear hb HM e0
      go_wp2_with fail
      refine (hgood.out Ap cp _ hCp.out hlp.out).mono ?_
      rintro e w3 ⟨At, ct, rfl, hct, F_t, hb⟩
      have HM3 := Aside0.mk (HM2.out.step hb)
      replace hct := Aside0.mk hct
      replace F_t := Aside0.mk F_t
      have hsz3 := Aside0.mk hb.size
      clear hb HM2 hCp hgood
      have b7 := Aside0.mk (heap_alloc_new w3 (.cells #[.int .i64 t.f0, .int .i64 t.f1, .string t.f2, .slice At t.f3.length ct] 58))
      have HM4 := Aside0.mk (HM3.out.step (below_alloc (Below.refl w3.heap.size w3) (.cells #[.int .i64 t.f0, .int .i64 t.f1, .string t.f2, .slice At t.f3.length ct] 58)))
      replace F_t := Aside0.mk (Kd.F_alloc F_t.out (.cells #[.int .i64 t.f0, .int .i64 t.f1, .string t.f2, .slice At t.f3.length ct] 58))
      go_wp2_with fail
      generalize (w3.alloc (.cells #[.int .i64 t.f0, .int .i64 t.f1, .string t.f2, .slice At t.f3.length ct] 58)) = y0 at *
      have B_7 := b7.out
      have HM := HM4.out
      replace F_t := F_t.out
      clear b7 HM4 HM3
      refine start_ (n := 10) (S := fun w' => w'.cell? ⟨w3.heap.size, 0, none⟩ = some (.int .i64 t.f0) ∧ w'.cell? ⟨w3.heap.size, 1, none⟩ = some (.int .i64 t.f1) ∧ w'.cell? ⟨w3.heap.size, 2, none⟩ = some (.string t.f2) ∧ w'.cell? ⟨w3.heap.size, 3, none⟩ = some (.slice At t.f3.length ct)) (ds := [7]) #[false, false, false, false, false, false, false, false, false, false] (by kernel_rfl) rfl rfl ⟨(blk_cell (blk_drew B_7) 0).trans rfl, (blk_cell (blk_drew B_7) 1).trans rfl, (blk_cell (blk_drew B_7) 2).trans rfl, (blk_cell (blk_drew B_7) 3).trans rfl⟩ (fun hHeld => ?_)
      replace HM := HM.step (below_drew (Below.refl _ _))
      replace F_t := Kd.F_drew F_t
      replace B_7 := blk_drew B_7
      generalize y0.drew = v0 at *
      refine pure_ (i := 0) (N := some 31) (v := ?_) (a' := ?_) #[true, false, false, false, false, false, false, false, false, false] rfl rfl (by kernel_rfl) (fun _ _ _ h => h) (Or.inl ⟨by rfl, ?_⟩) ?_ ?_
      rotate_left
      · intro w'
        go_simp
        with_reducible rfl
      rotate_left
      · simp only [Act.put, List.setIfInBounds_toArray, List.set_cons_zero, List.set_cons_succ, i64_w, i32_w]
        rfl
      refine take_ (i := 1) (N := some 32) (v := ?_) (a' := ?_) #[true, true, false, false, false, false, false, false, false, false] rfl rfl (by kernel_rfl) (fun _ _ _ h => h) (Or.inl ⟨by rfl, ?_⟩) hHeld ?_ ?_
      rotate_left
      · rintro w' ⟨s0, s1, s2, s3⟩
        go_simp
        with_reducible rfl
      rotate_left
      · simp only [Act.put, List.setIfInBounds_toArray, List.set_cons_zero, List.set_cons_succ, i64_w, i32_w]
        rfl
      refine pure_ (i := 4) (N := some 35) (v := ?_) (a' := ?_) #[true, true, false, false, true, false, false, false, false, false] rfl rfl (by kernel_rfl) (fun _ _ _ h => h) (Or.inl ⟨by rfl, ?_⟩) ?_ ?_
      rotate_left
      · intro w'
        go_simp
        with_reducible rfl
      rotate_left
      · simp only [Act.put, List.setIfInBounds_toArray, List.set_cons_zero, List.set_cons_succ, i64_w, i32_w]
        rfl
      refine take_ (i := 5) (N := some 36) (v := ?_) (a' := ?_) #[true, true, false, false, true, true, false, false, false, false] rfl rfl (by kernel_rfl) (fun _ _ _ h => h) (Or.inl ⟨by rfl, ?_⟩) hHeld ?_ ?_
      rotate_left
      · rintro w' ⟨s0, s1, s2, s3⟩
        go_simp
        with_reducible rfl
      rotate_left
      · simp only [Act.put, List.setIfInBounds_toArray, List.set_cons_zero, List.set_cons_succ, i64_w, i32_w]
        rfl
      refine one_ (i := 2) (N := some 33) #[true, true, true, false, true, true, false, false, false, false] rfl rfl (by kernel_rfl) (by decide) (fun K hK => ?_)
      refine value_ (w1 := ?_) (v := ?_) (by rfl) rfl ?_ ?_
      rotate_left 2
      · go_simp
        constructor
        · rfl
        · rfl
      refine hK.out _ _ ⟨(blk_cell (blk_alloc B_7 _) 0).trans rfl, (blk_cell (blk_alloc B_7 _) 1).trans rfl, (blk_cell (blk_alloc B_7 _) 2).trans rfl, (blk_cell (blk_alloc B_7 _) 3).trans rfl⟩ (fun hHeld => ?_)
      clear hK K
      refine norm_ (a' := ?_) ?_ ?_
      rotate_left
      · show Act.put _ (some 33) _ = _
        simp only [Act.put, List.setIfInBounds_toArray, List.set_cons_zero, List.set_cons_succ, i64_w, i32_w]
        rfl
      refine one_ (i := 3) (N := some 34) #[true, true, true, true, true, true, false, false, false, false] rfl rfl (by kernel_rfl) (by decide) (fun K hK => ?_)
      have hlO := Kd.N_lt HM.own
      have hlF := Kd.N_lt HM.flat
      have hl7 := blk_lt B_7
      have hsw := HM.below.size
      have q2 := hsz3.out
      have q1 := hszr.out
      refine Kd.N_append_step k58 (w0 := w) w.heap.size (by rfl) (.tmp 31) (.tmp 33) 56 58 (.agg #[(.int .i64 0), (.int .i64 0), (.string ⟨#[]⟩), (.slice none 0 0)]) 56 rfl Try.underlying56 info58 rfl (by decide) (by omega) (.slice Ao ts.length co) ts t [.int .i64 t.f0, .int .i64 t.f1, .string t.f2, .slice At t.f3.length ct] (fun k => w.heap.size ≤ k ∧ some k ≠ (Value.slice Af (flatAll ts).length cf).ownBlock) (fun k => w2.heap.size ≤ k) rfl rfl (k58_mkF _ _ t hct.out F_t) ?aP ?aF HM.own HM.below HM.below.size ?aL ?_
      (case aP => exact fun k hk => by have hk2 : w2.heap.size ≤ k := hk; have hw := hszw.out; exact ⟨⟨by omega, fun he => by have := hltF.out k he.symm; omega⟩, fun he => by have := hltO.out k he.symm; omega⟩)
      (case aF => exact fun k hk => ⟨by omega, fun he => by have := hlF k he.symm; omega⟩)
      (case aL => have := hts.out; omega)
      intro o1 w5 N5 HB5 hg5 hat5
      have B5 := (hg5.block _ hl7 (fun he => by have h9 := hltO.out _ he.symm; omega)).trans B_7
      refine hK.out _ _ ⟨(blk_cell B5 0).trans rfl, (blk_cell B5 1).trans rfl, (blk_cell B5 2).trans rfl, (blk_cell B5 3).trans rfl⟩ (fun hHeld => ?_)
      clear hK K
      refine norm_ (a' := ?_) ?_ ?_
      rotate_left
      · show Act.put _ (some 34) _ = _
        simp only [Act.put, List.setIfInBounds_toArray, List.set_cons_zero, List.set_cons_succ, i64_w, i32_w]
        rfl
      have Nf5 := m_other HM.flat hg5 hat5
      have F5 := Kd.F_step F_t (fun k hk hlk => hg5.block k hlk (fun he => by have h9 := hltO.out k he.symm; have hk2 : w2.heap.size ≤ k := hk; omega))
      have hlO5 := Kd.N_lt N5
      have hlF5 := Kd.N_lt Nf5
      have hsw5 := HB5.size
      clear hat5 hg5 F_t HM B_7 hHeld hlO hlF hl7 hsw
      refine one_ (i := 6) (N := some 37) #[true, true, true, true, true, true, true, false, false, false] rfl rfl (by kernel_rfl) (by decide) (fun K hK => ?_)
      refine goes_ Try.func43 (by kernel_rfl) rfl #[.agg #[.int .i64 t.f0, .int .i64 t.f1, .string t.f2, .slice At t.f3.length ct]] (by rfl) rfl rfl (by (try simp only [List.map_toArray, List.map_cons, List.map_nil]); first | done | rfl) ?_
      refine (flat_calls 1000000 (by omega) t (by have := hst.out; omega) At ct _ _ F5 hct.out).mono ?_
      rintro e w6 ⟨uf, rfl, N6, hb⟩
      refine ⟨_, rfl, ?_⟩
      have B6 := blk_below B5 hb
      have No6 := Kd.N_below N5 hb
      have Nf6 := Kd.N_below Nf5 hb
      have HB6 := below_step HB5 hb
      have hs56 := hb.size
      clear hb
      refine hK.out _ _ ⟨(blk_cell B6 0).trans rfl, (blk_cell B6 1).trans rfl, (blk_cell B6 2).trans rfl, (blk_cell B6 3).trans rfl⟩ (fun hHeld => ?_)
      clear hK K
      refine norm_ (a' := ?_) ?_ ?_
      rotate_left
      · show Act.put _ (some 37) _ = _
        simp only [Act.put, List.setIfInBounds_toArray, List.set_cons_zero, List.set_cons_succ, i64_w, i32_w]
        rfl
      obtain ⟨Au, cu, eu⟩ := Kd.N_slice N6
      subst eu
      refine last_ (i := 7) (N := some 38) #[true, true, true, true, true, true, true, true, false, false] rfl rfl (by kernel_rfl) (by decide) (fun K hK => ?_)
      refine Kd.N_append_rows_step k58 (w0 := w) w.heap.size (by rfl) (.tmp 35) (.tmp 37) 56 58 (.agg #[(.int .i64 0), (.int .i64 0), (.string ⟨#[]⟩), (.slice none 0 0)]) 56 rfl Try.underlying56 info58 rfl (by decide) (by omega) (.slice Af (flatAll ts).length cf) (flatAll ts) (flatN 1000000 t) Au (flatN 1000000 t).length cu (fun k => w.heap.size ≤ k ∧ some k ≠ o1.ownBlock) (fun k => w5.heap.size ≤ k) rfl rfl Nf6 (Kd.N_F N6) ?bP ?bF HB6 HB6.size ?bL ?_
      (case bP => exact fun k hk => by have hk2 : w5.heap.size ≤ k := hk; exact ⟨⟨by omega, fun he => by have := hlO5 k he.symm; omega⟩, fun he => by have := hlF5 k he.symm; omega⟩)
      (case bF => exact fun k hk => ⟨by omega, fun he => by have := hlO5 k he.symm; omega⟩)
      (case bL => have h1 := hts.out; have h2 := fm_len ts hall.out; have h3 := flatN_len 1000000 t; have h4 := hst.out; omega)
      intro f1 w7 N7 HB7 hg7 hat7
      have No7 := m_other No6 hg7 hat7
      refine hK.out _ _ ?_
      clear hK K
      refine norm_ (a' := ?_) ?_ ?_
      rotate_left
      · show Act.put _ (some 38) _ = _
        simp only [Act.put, List.setIfInBounds_toArray, List.set_cons_zero, List.set_cons_succ, i64_w, i32_w]
        rfl
      have HM7 : Aside0 (MInv w w7 (ts ++ [t]) o1 f1) := ⟨⟨HB7, fun z hz => by rcases List.mem_append.1 hz with hz | hz; exact hall.out z hz; (simp at hz; subst hz; exact ⟨ht.out, hst.out⟩), No7, by unfold flatAll at *; rw [List.flatMap_append]; simpa using N7⟩⟩
      clear N7 HB7 hg7 hat7 No7 Nf6 No6 N6 hHeld B5 B6 HB5 HB6 N5 Nf5 F5 hlO5 hlF5
      refine pure_ (i := 8) (N := some 3) (v := ?_) (a' := ?_) #[true, true, true, true, true, true, true, true, true, false] rfl rfl (by kernel_rfl) (fun _ _ _ h => h) (Or.inl ⟨by rfl, ?_⟩) ?_ ?_
      rotate_left
      · intro w'
        go_simp
        with_reducible rfl
      rotate_left
      · simp only [Act.put, List.setIfInBounds_toArray, List.set_cons_zero, List.set_cons_succ, i64_w, i32_w]
        rfl
      refine pure_ (i := 9) (N := some 4) (v := ?_) (a' := ?_) #[true, true, true, true, true, true, true, true, true, true] rfl rfl (by kernel_rfl) (fun _ _ _ h => h) (Or.inl ⟨by rfl, ?_⟩) ?_ ?_
      rotate_left
      · intro w'
        go_simp
        with_reducible rfl
      rotate_left
      · simp only [Act.put, List.setIfInBounds_toArray, List.set_cons_zero, List.set_cons_succ, i64_w, i32_w]
        rfl
      refine done_ (by kernel_rfl) ?_
      go_wp2_with fail
      go_roundw
      case rel => exact ⟨k + 1, ts ++ [t], by go_num, ⟨by omega⟩, ⟨by simp [hts.out]⟩, HM7⟩
      case measure => simp [intOf]; omega
    · have hlt2 : decide ((k : Int) < (ls.length : Int)) = false := decide_eq_false (by omega)
      have hlt3 : decide (k < ls.length) = false := decide_eq_false hlt
      obtain rfl : k = ls.length := by have := hk.out; omega
      rename World => wq
      clear hlt hlt2 hlt3 hk HC
      obtain ⟨m, hm⟩ : ∃ m, ts.length = m + 1 := ⟨ts.length - 1, by have := hts.out; omega⟩
      have hm12 : m ≤ 11 := by have := hts.out; omega
      obtain ⟨Ao, co, eo⟩ := Kd.N_slice HM.out.own
      obtain ⟨Af, cf, ef⟩ := Kd.N_slice HM.out.flat
      rw [hm] at eo
      subst eo
      subst ef
      have hmm := Aside0.mk hm
      have hlO := Aside0.mk (Kd.N_lt HM.out.own)
      have hlF := Aside0.mk (Kd.N_lt HM.out.flat)
      have F_o := Kd.F_mono (Kd.F_bound (Kd.N_F HM.out.own)) (ok' := fun q => q < wq.heap.size) (fun q hq => hq.2)
      have F_f := Kd.F_mono (Kd.F_bound (Kd.N_F HM.out.flat)) (ok' := fun q => q < wq.heap.size) (fun q hq => hq.2)
      have hall := Aside0.mk HM.out.all
      have HB := Aside0.mk HM.out.below
      clear HM hts hm
      obtain ⟨ad, A0, d0, ead, e0, e1, e2, e3, hd0, F_a⟩ := at_F F_o ((0 : Nat) : Int) (by omega) (by omega)
      obtain ⟨ad', A1, d1, ead', f0, f1, f2, f3, hd1, F_b⟩ := at_F F_o ((m : Nat) : Int) (by omega) (by omega)
      obtain rfl : ad = ad' := by rw [ead] at ead'; injection ead'
      subst ead
      simp only [Int.toNat_natCast] at f0 f1 f2 f3
      replace e0 := Aside0.mk (show wq.cell? ad = some (.int .i64 (leftN ts 0).f0) from e0)
      replace e1 := Aside0.mk (show wq.cell? ⟨ad.block, ad.off + 1, none⟩ = some (.int .i64 (leftN ts 0).f1) from e1)
      replace e2 := Aside0.mk (show wq.cell? ⟨ad.block, ad.off + 2, none⟩ = some (.string (leftN ts 0).f2) from e2)
      replace e3 := Aside0.mk (show wq.cell? ⟨ad.block, ad.off + 3, none⟩ = some (.slice A0 (leftN ts 0).f3.length d0) from e3)
      replace f0 := Aside0.mk (show wq.cell? (ad.add (m * 4)) = some (.int .i64 (rightN ts m 0).f0) from f0)
      replace f1 := Aside0.mk (show wq.cell? ⟨(ad.add (m * 4)).block, (ad.add (m * 4)).off + 1, none⟩ = some (.int .i64 (rightN ts m 0).f1) from f1)
      replace f2 := Aside0.mk (show wq.cell? ⟨(ad.add (m * 4)).block, (ad.add (m * 4)).off + 2, none⟩ = some (.string (rightN ts m 0).f2) from f2)
      replace f3 := Aside0.mk (show wq.cell? ⟨(ad.add (m * 4)).block, (ad.add (m * 4)).off + 3, none⟩ = some (.slice A1 (rightN ts m 0).f3.length d1) from f3)
      have hd0 : Aside0 ((leftN ts 0).f3.length ≤ d0) := ⟨hd0⟩
      have hd1 : Aside0 ((rightN ts m 0).f3.length ≤ d1) := ⟨hd1⟩
      replace F_a : Aside0 (Kd.F k58 wq (fun q => q < wq.heap.size) A0 (leftN ts 0).f3.length (leftN ts 0).f3) := ⟨F_a⟩
      replace F_b : Aside0 (Kd.F k58 wq (fun q => q < wq.heap.size) A1 (rightN ts m 0).f3.length (rightN ts m 0).f3) := ⟨F_b⟩
      replace F_o := Aside0.mk F_o
      replace F_f := Aside0.mk F_f
      skip
      go_wp2_with fail
      refine start_ (n := 13) (S := fun w' => w'.cell? ad = some (.int .i64 (leftN ts 0).f0) ∧ w'.cell? ⟨ad.block, ad.off + 1, none⟩ = some (.int .i64 (leftN ts 0).f1) ∧ w'.cell? ⟨ad.block, ad.off + 2, none⟩ = some (.string (leftN ts 0).f2) ∧ w'.cell? ⟨ad.block, ad.off + 3, none⟩ = some (.slice A0 (leftN ts 0).f3.length d0) ∧ w'.cell? (ad.add (m * 4)) = some (.int .i64 (rightN ts m 0).f0) ∧ w'.cell? ⟨(ad.add (m * 4)).block, (ad.add (m * 4)).off + 1, none⟩ = some (.int .i64 (rightN ts m 0).f1) ∧ w'.cell? ⟨(ad.add (m * 4)).block, (ad.add (m * 4)).off + 2, none⟩ = some (.string (rightN ts m 0).f2) ∧ w'.cell? ⟨(ad.add (m * 4)).block, (ad.add (m * 4)).off + 3, none⟩ = some (.slice A1 (rightN ts m 0).f3.length d1)) (ds := []) #[false, false, false, false, false, false, false, false, false, false, false, false, false] (by kernel_rfl) rfl rfl ⟨ck (below_drew (Below.refl wq.heap.size wq)) e0.out, ck (below_drew (Below.refl wq.heap.size wq)) e1.out, ck (below_drew (Below.refl wq.heap.size wq)) e2.out, ck (below_drew (Below.refl wq.heap.size wq)) e3.out, ck (below_drew (Below.refl wq.heap.size wq)) f0.out, ck (below_drew (Below.refl wq.heap.size wq)) f1.out, ck (below_drew (Below.refl wq.heap.size wq)) f2.out, ck (below_drew (Below.refl wq.heap.size wq)) f3.out⟩ (fun hHeld => ?_)
      have HBwr := HB.out
      have HB0 := Aside0.mk HB.out.size
      have HW : Aside0 (Below wq.heap.size wq wq.drew) := ⟨below_drew (Below.refl _ _)⟩
      generalize wq.drew = v0 at *
      have hwm : wrap64 (m : Int) = (m : Int) := by unfold wrap64; omega
      have hml : (m : Int) < (m : Int) + 1 := by omega
      refine pure_ (i := 0) (N := some 40) (v := ?_) (a' := ?_) #[true, false, false, false, false, false, false, false, false, false, false, false, false] rfl rfl (by kernel_rfl) (fun _ _ _ h => h) (Or.inl ⟨by rfl, ?_⟩) ?_ ?_
      rotate_left
      · intro w'
        go_simp
        with_reducible rfl
      rotate_left
      · simp only [Act.put, List.setIfInBounds_toArray, List.set_cons_zero, List.set_cons_succ, i64_w, i32_w]
        rfl
      refine pure_ (i := 1) (N := some 41) (v := ?_) (a' := ?_) #[true, true, false, false, false, false, false, false, false, false, false, false, false] rfl rfl (by kernel_rfl) (fun _ _ _ h => h) (Or.inl ⟨by rfl, ?_⟩) ?_ ?_
      rotate_left
      · intro w'
        go_simp
        with_reducible rfl
      rotate_left
      · simp only [Act.put, List.setIfInBounds_toArray, List.set_cons_zero, List.set_cons_succ, i64_w, i32_w]
        rfl
      refine take_ (i := 2) (N := some 42) (v := ?_) (a' := ?_) #[true, true, true, false, false, false, false, false, false, false, false, false, false] rfl rfl (by kernel_rfl) (fun _ _ _ h => h) (Or.inl ⟨by rfl, ?_⟩) hHeld ?_ ?_
      rotate_left
      · rintro w' ⟨s0, s1, s2, s3, s4, s5, s6, s7⟩
        go_simp
        with_reducible rfl
      rotate_left
      · simp only [Act.put, List.setIfInBounds_toArray, List.set_cons_zero, List.set_cons_succ, i64_w, i32_w]
        rfl
      refine pure_ (i := 3) (N := some 43) (v := ?_) (a' := ?_) #[true, true, true, true, false, false, false, false, false, false, false, false, false] rfl rfl (by kernel_rfl) (fun _ _ _ h => h) (Or.inl ⟨by rfl, ?_⟩) ?_ ?_
      rotate_left
      · intro w'
        go_simp
        with_reducible rfl
      rotate_left
      · simp only [Act.put, List.setIfInBounds_toArray, List.set_cons_zero, List.set_cons_succ, i64_w, i32_w]
        rfl
      refine pure_ (i := 4) (N := some 44) (v := ?_) (a' := ?_) #[true, true, true, true, true, false, false, false, false, false, false, false, false] rfl rfl (by kernel_rfl) (fun _ _ _ h => h) (Or.inl ⟨by rfl, ?_⟩) ?_ ?_
      rotate_left
      · intro w'
        go_simp
        with_reducible rfl
      rotate_left
      · simp only [Act.put, List.setIfInBounds_toArray, List.set_cons_zero, List.set_cons_succ, i64_w, i32_w]
        rfl
      refine pure_ (i := 5) (N := some 45) (v := ?_) (a' := ?_) #[true, true, true, true, true, true, false, false, false, false, false, false, false] rfl rfl (by kernel_rfl) (fun _ _ _ h => h) (Or.inl ⟨by rfl, ?_⟩) ?_ ?_
      rotate_left
      · intro w'
        go_simp
        with_reducible rfl
      rotate_left
      · simp only [Act.put, List.setIfInBounds_toArray, List.set_cons_zero, List.set_cons_succ, i64_w, i32_w]
        rfl
      refine pure_ (i := 6) (N := some 46) (v := ?_) (a' := ?_) #[true, true, true, true, true, true, true, false, false, false, false, false, false] rfl rfl (by kernel_rfl) (fun _ _ _ h => h) (Or.inl ⟨by rfl, ?_⟩) ?_ ?_
      rotate_left
      · intro w'
        go_simp
        with_reducible rfl
      rotate_left
      · simp only [Act.put, List.setIfInBounds_toArray, List.set_cons_zero, List.set_cons_succ, i64_w, i32_w]
        rfl
      refine pure_ (i := 7) (N := some 47) (v := ?_) (a' := ?_) #[true, true, true, true, true, true, true, true, false, false, false, false, false] rfl rfl (by kernel_rfl) (fun _ _ _ h => h) (Or.inl ⟨by rfl, ?_⟩) ?_ ?_
      rotate_left
      · intro w'
        go_simp
        with_reducible rfl
      rotate_left
      · simp only [Act.put, List.setIfInBounds_toArray, List.set_cons_zero, List.set_cons_succ, i64_w, i32_w]
        rfl
      refine take_ (i := 8) (N := some 48) (v := ?_) (a' := ?_) #[true, true, true, true, true, true, true, true, true, false, false, false, false] rfl rfl (by kernel_rfl) (fun _ _ _ h => h) (Or.inl ⟨by rfl, ?_⟩) hHeld ?_ ?_
      rotate_left
      · rintro w' ⟨s0, s1, s2, s3, s4, s5, s6, s7⟩
        go_simp
        with_reducible rfl
      rotate_left
      · simp only [Act.put, List.setIfInBounds_toArray, List.set_cons_zero, List.set_cons_succ, i64_w, i32_w]
        rfl
      refine join_ (σ := Nat × Nat) 2 #[true, true, true, true, true, true, true, true, true, true, true, false, false] (fun s => [(8, .pointer (some ⟨s.1, 0, none⟩)), (9, .pointer (some ⟨s.2, 0, none⟩))]) (fun s w' => Two v0 w' s.1 s.2) ?hcont ?hboth
      case hboth =>
        intro hc
        refine two_ (i := 9) (j := 10) (Ni := some 8) (Nj := some 9) #[true, true, true, true, true, true, true, true, true, true, false, false, false] #[true, true, true, true, true, true, true, true, true, false, true, false, false] rfl rfl rfl rfl (by kernel_rfl) (by decide) (by decide) (fun K hK => ?_) (fun K hK => ?_)
        · refine value_ (w1 := ?_) (v := ?_) (by rfl) rfl ?_ ?_
          rotate_left 2
          · go_simp
            constructor
            · rfl
            · rfl
          refine hK.out _ _ ⟨ck (below_step HW.out (below_alloc (Below.refl _ _) _)) e0.out, ck (below_step HW.out (below_alloc (Below.refl _ _) _)) e1.out, ck (below_step HW.out (below_alloc (Below.refl _ _) _)) e2.out, ck (below_step HW.out (below_alloc (Below.refl _ _) _)) e3.out, ck (below_step HW.out (below_alloc (Below.refl _ _) _)) f0.out, ck (below_step HW.out (below_alloc (Below.refl _ _) _)) f1.out, ck (below_step HW.out (below_alloc (Below.refl _ _) _)) f2.out, ck (below_step HW.out (below_alloc (Below.refl _ _) _)) f3.out⟩ (fun hHeld => ?_)
          clear hK K
          refine one_ (i := 10) (N := some 9) #[true, true, true, true, true, true, true, true, true, true, true, false, false] rfl rfl (by kernel_rfl) (by decide) (fun K hK => ?_)
          refine value_ (w1 := ?_) (v := ?_) (by rfl) rfl ?_ ?_
          rotate_left 2
          · go_simp
            constructor
            · rfl
            · rfl
          refine hK.out _ _ ⟨ck (below_step HW.out (below_alloc (below_alloc (Below.refl _ _) _) _)) e0.out, ck (below_step HW.out (below_alloc (below_alloc (Below.refl _ _) _) _)) e1.out, ck (below_step HW.out (below_alloc (below_alloc (Below.refl _ _) _) _)) e2.out, ck (below_step HW.out (below_alloc (below_alloc (Below.refl _ _) _) _)) e3.out, ck (below_step HW.out (below_alloc (below_alloc (Below.refl _ _) _) _)) f0.out, ck (below_step HW.out (below_alloc (below_alloc (Below.refl _ _) _) _)) f1.out, ck (below_step HW.out (below_alloc (below_alloc (Below.refl _ _) _) _)) f2.out, ck (below_step HW.out (below_alloc (below_alloc (Below.refl _ _) _) _)) f3.out⟩ (fun hHeld => ?_)
          exact hc (v0.heap.size, v0.heap.size + 1) _ (two_ab v0)
        · refine value_ (w1 := ?_) (v := ?_) (by rfl) rfl ?_ ?_
          rotate_left 2
          · go_simp
            constructor
            · rfl
            · rfl
          refine hK.out _ _ ⟨ck (below_step HW.out (below_alloc (Below.refl _ _) _)) e0.out, ck (below_step HW.out (below_alloc (Below.refl _ _) _)) e1.out, ck (below_step HW.out (below_alloc (Below.refl _ _) _)) e2.out, ck (below_step HW.out (below_alloc (Below.refl _ _) _)) e3.out, ck (below_step HW.out (below_alloc (Below.refl _ _) _)) f0.out, ck (below_step HW.out (below_alloc (Below.refl _ _) _)) f1.out, ck (below_step HW.out (below_alloc (Below.refl _ _) _)) f2.out, ck (below_step HW.out (below_alloc (Below.refl _ _) _)) f3.out⟩ (fun hHeld => ?_)
          clear hK K
          refine one_ (i := 9) (N := some 8) #[true, true, true, true, true, true, true, true, true, true, true, false, false] rfl rfl (by kernel_rfl) (by decide) (fun K hK => ?_)
          refine value_ (w1 := ?_) (v := ?_) (by rfl) rfl ?_ ?_
          rotate_left 2
          · go_simp
            constructor
            · rfl
            · rfl
          refine hK.out _ _ ⟨ck (below_step HW.out (below_alloc (below_alloc (Below.refl _ _) _) _)) e0.out, ck (below_step HW.out (below_alloc (below_alloc (Below.refl _ _) _) _)) e1.out, ck (below_step HW.out (below_alloc (below_alloc (Below.refl _ _) _) _)) e2.out, ck (below_step HW.out (below_alloc (below_alloc (Below.refl _ _) _) _)) e3.out, ck (below_step HW.out (below_alloc (below_alloc (Below.refl _ _) _) _)) f0.out, ck (below_step HW.out (below_alloc (below_alloc (Below.refl _ _) _) _)) f1.out, ck (below_step HW.out (below_alloc (below_alloc (Below.refl _ _) _) _)) f2.out, ck (below_step HW.out (below_alloc (below_alloc (Below.refl _ _) _) _)) f3.out⟩ (fun hHeld => ?_)
          exact hc (v0.heap.size + 1, v0.heap.size) _ (two_ba v0)
      case hcont =>
      rintro ⟨g8, g9⟩ W2 HT
      refine norm_ (a' := ?_) ?_ ?_
      rotate_left
      · show putAll _ _ = _
        simp only [putAll, Act.put, List.setIfInBounds_toArray, List.set_cons_zero, List.set_cons_succ, i64_w, i32_w]
        rfl
      obtain ⟨hne, hg8, hg9, B_8, B_9, hbw⟩ := HT
      dsimp only at hne hg8 hg9 B_8 B_9
      have HBW := below_step HW.out hbw
      have hsw := HW.out.size
      replace HB := below_step HB.out HBW
      have hswr := HB0.out
      clear hbw HW
      refine one_ (i := 11) (N := none) #[true, true, true, true, true, true, true, true, true, true, true, true, false] rfl rfl (by kernel_rfl) (by decide) (fun K hK => ?_)
      have hst_ : (Instr.storeAt 58 (.pointer (some ⟨g8, 0, none⟩)) (.agg #[.int .i64 (leftN ts 0).f0, .int .i64 (leftN ts 0).f1, .string (leftN ts 0).f2, .slice A0 (leftN ts 0).f3.length d0])).run Try.prog W2 = .ok () ((((W2.setCell ⟨g8, 0, none⟩ (.int .i64 (leftN ts 0).f0)).setCell ⟨g8, 1, none⟩ (.int .i64 (leftN ts 0).f1)).setCell ⟨g8, 2, none⟩ (.string (leftN ts 0).f2)).setCell ⟨g8, 3, none⟩ (.slice A0 (leftN ts 0).f3.length d0)) := store4 B_8
      refine skip_ (by rfl) rfl (w1 := ((((W2.setCell ⟨g8, 0, none⟩ (.int .i64 (leftN ts 0).f0)).setCell ⟨g8, 1, none⟩ (.int .i64 (leftN ts 0).f1)).setCell ⟨g8, 2, none⟩ (.string (leftN ts 0).f2)).setCell ⟨g8, 3, none⟩ (.slice A0 (leftN ts 0).f3.length d0))) (ins_st hst_) ?_
      clear hst_
      obtain ⟨s1_, s2_, s3_⟩ := set4 (.int .i64 (leftN ts 0).f0) (.int .i64 (leftN ts 0).f1) (.string (leftN ts 0).f2) (.slice A0 (leftN ts 0).f3.length d0) B_8
      replace HB := s3_ _ _ HB (by omega)
      replace HBW := s3_ _ _ HBW (by omega)
      replace B_9 := (s2_ _ (by omega)).trans B_9
      replace B_8 := s1_
      clear s1_ s2_ s3_
      generalize ((((W2.setCell ⟨g8, 0, none⟩ (.int .i64 (leftN ts 0).f0)).setCell ⟨g8, 1, none⟩ (.int .i64 (leftN ts 0).f1)).setCell ⟨g8, 2, none⟩ (.string (leftN ts 0).f2)).setCell ⟨g8, 3, none⟩ (.slice A0 (leftN ts 0).f3.length d0)) = W3 at *
      refine hK.out _ _ ⟨ck HBW e0.out, ck HBW e1.out, ck HBW e2.out, ck HBW e3.out, ck HBW f0.out, ck HBW f1.out, ck HBW f2.out, ck HBW f3.out⟩ (fun hHeld => ?_)
      clear hK K
      refine one_ (i := 12) (N := none) #[true, true, true, true, true, true, true, true, true, true, true, true, true] rfl rfl (by kernel_rfl) (by decide) (fun K hK => ?_)
      have hst_ : (Instr.storeAt 58 (.pointer (some ⟨g9, 0, none⟩)) (.agg #[.int .i64 (rightN ts m 0).f0, .int .i64 (rightN ts m 0).f1, .string (rightN ts m 0).f2, .slice A1 (rightN ts m 0).f3.length d1])).run Try.prog W3 = .ok () ((((W3.setCell ⟨g9, 0, none⟩ (.int .i64 (rightN ts m 0).f0)).setCell ⟨g9, 1, none⟩ (.int .i64 (rightN ts m 0).f1)).setCell ⟨g9, 2, none⟩ (.string (rightN ts m 0).f2)).setCell ⟨g9, 3, none⟩ (.slice A1 (rightN ts m 0).f3.length d1)) := store4 B_9
      refine skip_ (by rfl) rfl (w1 := ((((W3.setCell ⟨g9, 0, none⟩ (.int .i64 (rightN ts m 0).f0)).setCell ⟨g9, 1, none⟩ (.int .i64 (rightN ts m 0).f1)).setCell ⟨g9, 2, none⟩ (.string (rightN ts m 0).f2)).setCell ⟨g9, 3, none⟩ (.slice A1 (rightN ts m 0).f3.length d1))) (ins_st hst_) ?_
      clear hst_
      obtain ⟨s1_, s2_, s3_⟩ := set4 (.int .i64 (rightN ts m 0).f0) (.int .i64 (rightN ts m 0).f1) (.string (rightN ts m 0).f2) (.slice A1 (rightN ts m 0).f3.length d1) B_9
      replace HB := s3_ _ _ HB (by omega)
      replace HBW := s3_ _ _ HBW (by omega)
      replace B_8 := (s2_ _ (by omega)).trans B_8
      replace B_9 := s1_
      clear s1_ s2_ s3_
      generalize ((((W3.setCell ⟨g9, 0, none⟩ (.int .i64 (rightN ts m 0).f0)).setCell ⟨g9, 1, none⟩ (.int .i64 (rightN ts m 0).f1)).setCell ⟨g9, 2, none⟩ (.string (rightN ts m 0).f2)).setCell ⟨g9, 3, none⟩ (.slice A1 (rightN ts m 0).f3.length d1)) = W4 at *
      refine hK.out _ _ ⟨ck HBW e0.out, ck HBW e1.out, ck HBW e2.out, ck HBW e3.out, ck HBW f0.out, ck HBW f1.out, ck HBW f2.out, ck HBW f3.out⟩ (fun hHeld => ?_)
      clear hK K
      refine done_ (by kernel_rfl) ?_
      clear hHeld
      have HL : Aside0 (LS ts m wq g8 g9 0 W4) := ⟨⟨A0, d0, A1, d1, B_8, B_9, hd0.out, hd1.out, Kd.F_below (Kd.F_mono F_a.out (fun q hq => ⟨by have hq2 : q < wq.heap.size := hq; omega, by have hq2 : q < wq.heap.size := hq; omega⟩)) HBW, Kd.F_below (Kd.F_mono F_b.out (fun q hq => ⟨by have hq2 : q < wq.heap.size := hq; omega, by have hq2 : q < wq.heap.size := hq; omega⟩)) HBW, HBW⟩⟩
      have hg8 : Aside0 (wq.heap.size ≤ g8 ∧ wq.heap.size ≤ g9 ∧ g8 ≠ g9) := ⟨by omega, by omega, hne⟩
      have HBw := Aside0.mk HBwr
      clear HB HBW B_8 B_9 hg9 hne hsw hswr F_a F_b hd0 hd1 e0 e1 e2 e3 f0 f1 f2 f3
      replace hwm := Aside0.mk hwm
      replace hml := Aside0.mk hml
      have hwm3 := hwm.out
      rw [hwm3]
      clear hwm3
      go_wp2_with fail
      go_loopw [10] (fun n wl => ∃ (j : Nat), n = .int .i64 ((j : Int) + 1) ∧ Aside0 (j ≤ m) ∧ Aside0 (LS ts m wq g8 g9 j wl)) (fun n _ => m + 1 - (intOf n).toNat)
      case atStart => exact ⟨0, rfl, ⟨by omega⟩, HL⟩
      case round =>
        clear HL
        obtain ⟨j, rfl, hj, HL⟩ := hrel
        obtain ⟨A8, c8, A9, c9, B_8, B_9, l8, l9, F_8, F_9, HBW⟩ := HL.out
        clear HL
        by_cases hlt : j < m
        · have hlt2 : decide ((j : Int) + 1 < (m : Int) + 1) = true := decide_eq_true (by omega)
          have hlt3 : (j : Int) + 1 < (m : Int) + 1 := by omega
          have hlt4 : (j : Int) < (m : Int) := by omega
          have hj0 : (0 : Int) ≤ (j : Int) + 1 := by omega
          have hlt5 : decide (j < m) = true := decide_eq_true hlt
          obtain ⟨af, Ae, ce, eaf, e0, e1, e2, e3, hce, F_e⟩ := at_F F_o.out ((j + 1 : Nat) : Int) (by omega) (by omega)
          have eaf2 : ad = af := by injection eaf
          subst eaf2
          simp only [Int.toNat_natCast] at e0 e1 e2 e3
          obtain ⟨i, hi⟩ : ∃ i, i + (j + 1) = m := ⟨m - (j + 1), by omega⟩
          have hi2 : m - (j + 1) = i := by omega
          obtain ⟨af, Ai, ci, eaf, f0, f1, f2, f3, hci, F_i⟩ := at_F F_o.out ((i : Nat) : Int) (by omega) (by omega)
          have eaf2 : ad = af := by injection eaf
          subst eaf2
          simp only [Int.toNat_natCast] at f0 f1 f2 f3
          replace e0 := Aside0.mk e0
          replace f0 := Aside0.mk f0
          replace e1 := Aside0.mk e1
          replace f1 := Aside0.mk f1
          replace e2 := Aside0.mk e2
          replace f2 := Aside0.mk f2
          replace e3 := Aside0.mk e3
          replace f3 := Aside0.mk f3
          have hLn : Aside0 (leftN ts (j + 1) = tAnd2 (leftN ts j) (rd_T58 ts ((j + 1 : Nat) : Int))) := ⟨rfl⟩
          have hRn : Aside0 (rightN ts m (j + 1) = tAnd2 (rd_T58 ts ((i : Nat) : Int)) (rightN ts m j)) := ⟨by rw [rightN, hi2]⟩
          generalize rd_T58 ts ((j + 1 : Nat) : Int) = xe at *
          generalize rd_T58 ts ((i : Nat) : Int) = xi at *
          generalize leftN ts j = lj at *
          generalize rightN ts m j = rj at *
          obtain ⟨hwj, hwj2, hii⟩ : wrap64 ((m : Int) - ((j : Int) + 1)) = (i : Int) ∧ wrap64 ((j : Int) + 1 + 1) = (j : Int) + 1 + 1 ∧ (i : Int) < (m : Int) + 1 := ⟨by rw [w64 (by omega) (by omega)]; omega, w64 (by omega) (by omega), by omega⟩
          have hwm2 := hwm.out
          have hml2 := hml.out
          have hj1 : Aside0 (j + 1 ≤ m) := ⟨by clear hwj hwj2 hwm2; omega⟩
          have hnum : Aside0 (Value.int .i64 (wrap64 ((j : Int) + 1 + 1)) = Value.int .i64 (((j + 1 : Nat) : Int) + 1)) := ⟨by rw [hwj2]; rfl⟩
          have hmeas : Aside0 (m + 1 - (intOf (.int .i64 (wrap64 ((j : Int) + 1 + 1)))).toNat < m + 1 - (intOf (.int .i64 ((j : Int) + 1))).toNat) := ⟨by rw [hwj2]; show m + 1 - ((j : Int) + 1 + 1).toNat < m + 1 - ((j : Int) + 1).toNat; clear hwj hwj2 hwm2; omega⟩
          replace l8 := Aside0.mk l8
          replace l9 := Aside0.mk l9
          replace hce := Aside0.mk hce
          replace hci := Aside0.mk hci
          replace F_8 := Aside0.mk F_8
          replace F_9 := Aside0.mk F_9
          replace F_e := Aside0.mk F_e
          replace F_i := Aside0.mk F_i
          replace B_8 := Aside0.mk B_8
          replace B_9 := Aside0.mk B_9
          replace HBW := Aside0.mk HBW
          go_wp2_with fail
          replace B_8 := B_8.out
          replace B_9 := B_9.out
          replace HBW := HBW.out
          replace F_8 := F_8.out
          replace F_9 := F_9.out
          refine start_ (n := 8) (S := fun w' => w'.cell? ⟨g8, 0, none⟩ = some (.int .i64 lj.f0) ∧ w'.cell? ⟨g8, 1, none⟩ = some (.int .i64 lj.f1) ∧ w'.cell? ⟨g8, 2, none⟩ = some (.string lj.f2) ∧ w'.cell? ⟨g8, 3, none⟩ = some (.slice A8 lj.f3.length c8) ∧ w'.cell? (ad.add ((j + 1) * 4)) = some (.int .i64 xe.f0) ∧ w'.cell? ⟨(ad.add ((j + 1) * 4)).block, (ad.add ((j + 1) * 4)).off + 1, none⟩ = some (.int .i64 xe.f1) ∧ w'.cell? ⟨(ad.add ((j + 1) * 4)).block, (ad.add ((j + 1) * 4)).off + 2, none⟩ = some (.string xe.f2) ∧ w'.cell? ⟨(ad.add ((j + 1) * 4)).block, (ad.add ((j + 1) * 4)).off + 3, none⟩ = some (.slice Ae xe.f3.length ce)) (ds := [7]) #[false, false, false, false, false, false, false, false] (by kernel_rfl) rfl rfl ⟨(blk_cell (blk_drew B_8) 0).trans rfl, (blk_cell (blk_drew B_8) 1).trans rfl, (blk_cell (blk_drew B_8) 2).trans rfl, (blk_cell (blk_drew B_8) 3).trans rfl, ck HBW.drew e0.out, ck HBW.drew e1.out, ck HBW.drew e2.out, ck HBW.drew e3.out⟩ (fun hHeld => ?_)
          replace B_8 := blk_drew B_8
          replace B_9 := blk_drew B_9
          replace HBW := HBW.drew
          replace F_8 := Kd.F_drew F_8
          replace F_9 := Kd.F_drew F_9
          generalize wr.drew = a0 at *
          refine take_ (i := 0) (N := some 55) (v := ?_) (a' := ?_) #[true, false, false, false, false, false, false, false] rfl rfl (by kernel_rfl) (fun _ _ _ h => h) (Or.inl ⟨by rfl, ?_⟩) hHeld ?_ ?_
          rotate_left
          · rintro w' ⟨s0, s1, s2, s3, s4, s5, s6, s7⟩
            go_simp
            with_reducible rfl
          rotate_left
          · simp only [Act.put, List.setIfInBounds_toArray, List.set_cons_zero, List.set_cons_succ, i64_w, i32_w]
            rfl
          refine pure_ (i := 1) (N := some 56) (v := ?_) (a' := ?_) #[true, true, false, false, false, false, false, false] rfl rfl (by kernel_rfl) (fun _ _ _ h => h) (Or.inl ⟨by rfl, ?_⟩) ?_ ?_
          rotate_left
          · intro w'
            go_simp
            with_reducible rfl
          rotate_left
          · simp only [Act.put, List.setIfInBounds_toArray, List.set_cons_zero, List.set_cons_succ, i64_w, i32_w]
            rfl
          refine pure_ (i := 2) (N := some 57) (v := ?_) (a' := ?_) #[true, true, true, false, false, false, false, false] rfl rfl (by kernel_rfl) (fun _ _ _ h => h) (Or.inl ⟨by rfl, ?_⟩) ?_ ?_
          rotate_left
          · intro w'
            go_simp
            with_reducible rfl
          rotate_left
          · simp only [Act.put, List.setIfInBounds_toArray, List.set_cons_zero, List.set_cons_succ, i64_w, i32_w]
            rfl
          refine pure_ (i := 3) (N := some 58) (v := ?_) (a' := ?_) #[true, true, true, true, false, false, false, false] rfl rfl (by kernel_rfl) (fun _ _ _ h => h) (Or.inl ⟨by rfl, ?_⟩) ?_ ?_
          rotate_left
          · intro w'
            go_simp
            with_reducible rfl
          rotate_left
          · simp only [Act.put, List.setIfInBounds_toArray, List.set_cons_zero, List.set_cons_succ, i64_w, i32_w]
            rfl
          refine take_ (i := 4) (N := some 59) (v := ?_) (a' := ?_) #[true, true, true, true, true, false, false, false] rfl rfl (by kernel_rfl) (fun _ _ _ h => h) (Or.inl ⟨by rfl, ?_⟩) hHeld ?_ ?_
          rotate_left
          · rintro w' ⟨s0, s1, s2, s3, s4, s5, s6, s7⟩
            go_simp
            with_reducible rfl
          rotate_left
          · simp only [Act.put, List.setIfInBounds_toArray, List.set_cons_zero, List.set_cons_succ, i64_w, i32_w]
            rfl
          refine one_ (i := 5) (N := some 60) #[true, true, true, true, true, true, false, false] rfl rfl (by kernel_rfl) (by decide) (fun K hK => ?_)
          refine value_ (w1 := ?_) (v := ?_) (by rfl) rfl ?_ ?_
          rotate_left 2
          · go_simp
            constructor
            · rfl
            · rfl
          have hal := below_alloc (Below.refl a0.heap.size a0) (.cells #[.int .i64 lj.f0, .int .i64 lj.f1, .string lj.f2, .slice A8 lj.f3.length c8, .int .i64 xe.f0, .int .i64 xe.f1, .string xe.f2, .slice Ae xe.f3.length ce] 58)
          have B_L := heap_alloc_new a0 (.cells #[.int .i64 lj.f0, .int .i64 lj.f1, .string lj.f2, .slice A8 lj.f3.length c8, .int .i64 xe.f0, .int .i64 xe.f1, .string xe.f2, .slice Ae xe.f3.length ce] 58)
          have l8_ := blk_lt B_8
          have l9_ := blk_lt B_9
          replace B_8 := blk_below B_8 hal
          replace B_9 := blk_below B_9 hal
          replace HBW := below_step HBW hal
          replace F_8 := Kd.F_below F_8 hal
          replace F_9 := Kd.F_below F_9 hal
          clear hal
          refine hK.out _ _ ⟨(blk_cell B_8 0).trans rfl, (blk_cell B_8 1).trans rfl, (blk_cell B_8 2).trans rfl, (blk_cell B_8 3).trans rfl, ck HBW e0.out, ck HBW e1.out, ck HBW e2.out, ck HBW e3.out⟩ (fun hHeld => ?_)
          clear hK K
          refine norm_ (a' := ?_) ?_ ?_
          rotate_left
          · show Act.put _ (some 60) _ = _
            simp only [Act.put, List.setIfInBounds_toArray, List.set_cons_zero, List.set_cons_succ, i64_w, i32_w]
            rfl
          refine one_ (i := 6) (N := some 61) #[true, true, true, true, true, true, true, false] rfl rfl (by kernel_rfl) (by decide) (fun K hK => ?_)
          refine goes_ Try.func34 (by kernel_rfl) rfl #[.string ⟨#[44]⟩, .slice (some ⟨a0.heap.size, 0, none⟩) 2 2] (by rfl) rfl rfl (by (try simp only [List.map_toArray, List.map_cons, List.map_nil]); first | done | rfl) ?_
          refine (f_calls _ _ _ _ _).mono ?_
          rintro e a1 ⟨rfl, hb⟩
          refine ⟨_, rfl, ?_⟩
          replace B_8 := blk_below B_8 hb
          replace B_9 := blk_below B_9 hb
          replace B_L := blk_below B_L hb
          replace HBW := below_step HBW hb
          replace F_8 := Kd.F_below F_8 hb
          replace F_9 := Kd.F_below F_9 hb
          clear hb
          refine hK.out _ _ ⟨(blk_cell B_8 0).trans rfl, (blk_cell B_8 1).trans rfl, (blk_cell B_8 2).trans rfl, (blk_cell B_8 3).trans rfl, ck HBW e0.out, ck HBW e1.out, ck HBW e2.out, ck HBW e3.out⟩ (fun hHeld => ?_)
          clear hK K
          refine norm_ (a' := ?_) ?_ ?_
          rotate_left
          · show Act.put _ (some 61) _ = _
            simp only [Act.put, List.setIfInBounds_toArray, List.set_cons_zero, List.set_cons_succ, i64_w, i32_w]
            rfl
          have hg := hg8.out
          have F_N := lit2 B_L l8.out F_8 hce.out (Kd.F_mono (Kd.F_below F_e.out HBW) (fun q hq => ⟨by have hq2 : q < wq.heap.size := hq; omega, by have hq2 : q < wq.heap.size := hq; omega⟩))
          have hGn : a0.heap.size ≠ g8 ∧ a0.heap.size ≠ g9 := ⟨by omega, by omega⟩
          refine last_ (i := 7) (N := none) #[true, true, true, true, true, true, true, true] rfl rfl (by kernel_rfl) (by decide) (fun K hK => ?_)
          have hst_ : (Instr.storeAt 58 (.pointer (some ⟨g8, 0, none⟩)) (.agg #[.int .i64 4, .int .i64 0, .string ⟨#[44]⟩, .slice (some ⟨a0.heap.size, 0, none⟩) 2 2])).run Try.prog a1 = .ok () ((((a1.setCell ⟨g8, 0, none⟩ (.int .i64 4)).setCell ⟨g8, 1, none⟩ (.int .i64 0)).setCell ⟨g8, 2, none⟩ (.string ⟨#[44]⟩)).setCell ⟨g8, 3, none⟩ (.slice (some ⟨a0.heap.size, 0, none⟩) 2 2)) := store4 B_8
          refine skip_ (by rfl) rfl (w1 := ((((a1.setCell ⟨g8, 0, none⟩ (.int .i64 4)).setCell ⟨g8, 1, none⟩ (.int .i64 0)).setCell ⟨g8, 2, none⟩ (.string ⟨#[44]⟩)).setCell ⟨g8, 3, none⟩ (.slice (some ⟨a0.heap.size, 0, none⟩) 2 2))) (ins_st hst_) ?_
          clear hst_
          obtain ⟨s1_, s2_, s3_⟩ := set4 (.int .i64 4) (.int .i64 0) (.string ⟨#[44]⟩) (.slice (some ⟨a0.heap.size, 0, none⟩) 2 2) B_8
          replace HBW := s3_ _ _ HBW (by omega)
          replace B_9 := (s2_ _ (by omega)).trans B_9
          replace B_8 := s1_
          replace F_8 := Kd.F_step F_8 (fun q hq _ => s2_ q (hq.1))
          replace F_9 := Kd.F_step F_9 (fun q hq _ => s2_ q (hq.1))
          have F_M8 := Aside0.mk (Kd.F_step (Kd.F_mono F_N (ok' := fun q => q ≠ g8 ∧ q ≠ g9) (fun q hq => by rcases hq with hq | hq; exact hq; (subst hq; exact hGn))) (fun q hq _ => s2_ q (hq.1)))
          clear s1_ s2_ s3_ F_N B_L hGn l8_ l9_ hg
          generalize ((((a1.setCell ⟨g8, 0, none⟩ (.int .i64 4)).setCell ⟨g8, 1, none⟩ (.int .i64 0)).setCell ⟨g8, 2, none⟩ (.string ⟨#[44]⟩)).setCell ⟨g8, 3, none⟩ (.slice (some ⟨a0.heap.size, 0, none⟩) 2 2)) = a2 at *
          refine hK.out _ _ ?_
          clear hK K
          refine done_ (by kernel_rfl) ?_
          clear F_8
          replace B_8 := Aside0.mk B_8
          replace B_9 := Aside0.mk B_9
          replace HBW := Aside0.mk HBW
          have F_8 := F_M8
          replace F_9 := Aside0.mk F_9
          clear F_M8
          go_wp2_with fail
          replace B_8 := B_8.out
          replace B_9 := B_9.out
          replace HBW := HBW.out
          replace F_8 := F_8.out
          replace F_9 := F_9.out
          refine start_ (n := 12) (S := fun w' => w'.cell? ⟨g9, 0, none⟩ = some (.int .i64 rj.f0) ∧ w'.cell? ⟨g9, 1, none⟩ = some (.int .i64 rj.f1) ∧ w'.cell? ⟨g9, 2, none⟩ = some (.string rj.f2) ∧ w'.cell? ⟨g9, 3, none⟩ = some (.slice A9 rj.f3.length c9) ∧ w'.cell? (ad.add (i * 4)) = some (.int .i64 xi.f0) ∧ w'.cell? ⟨(ad.add (i * 4)).block, (ad.add (i * 4)).off + 1, none⟩ = some (.int .i64 xi.f1) ∧ w'.cell? ⟨(ad.add (i * 4)).block, (ad.add (i * 4)).off + 2, none⟩ = some (.string xi.f2) ∧ w'.cell? ⟨(ad.add (i * 4)).block, (ad.add (i * 4)).off + 3, none⟩ = some (.slice Ai xi.f3.length ci)) (ds := [11]) #[false, false, false, false, false, false, false, false, false, false, false, false] (by kernel_rfl) rfl rfl ⟨(blk_cell (blk_drew B_9) 0).trans rfl, (blk_cell (blk_drew B_9) 1).trans rfl, (blk_cell (blk_drew B_9) 2).trans rfl, (blk_cell (blk_drew B_9) 3).trans rfl, ck HBW.drew f0.out, ck HBW.drew f1.out, ck HBW.drew f2.out, ck HBW.drew f3.out⟩ (fun hHeld => ?_)
          replace B_8 := blk_drew B_8
          replace B_9 := blk_drew B_9
          replace HBW := HBW.drew
          replace F_8 := Kd.F_drew F_8
          replace F_9 := Kd.F_drew F_9
          generalize a2.drew = b0 at *
          refine pure_ (i := 0) (N := some 62) (v := ?_) (a' := ?_) #[true, false, false, false, false, false, false, false, false, false, false, false] rfl rfl (by kernel_rfl) (fun _ _ _ h => h) (Or.inl ⟨by rfl, ?_⟩) ?_ ?_
          rotate_left
          · intro w'
            go_simp
            with_reducible rfl
          rotate_left
          · simp only [Act.put, List.setIfInBounds_toArray, List.set_cons_zero, List.set_cons_succ, i64_w, i32_w]
            rfl
          refine pure_ (i := 1) (N := some 63) (v := ?_) (a' := ?_) #[true, true, false, false, false, false, false, false, false, false, false, false] rfl rfl (by kernel_rfl) (fun _ _ _ h => h) (Or.inl ⟨by rfl, ?_⟩) ?_ ?_
          rotate_left
          · intro w'
            go_simp
            with_reducible rfl
          rotate_left
          · simp only [Act.put, List.setIfInBounds_toArray, List.set_cons_zero, List.set_cons_succ, i64_w, i32_w]
            rfl
          refine pure_ (i := 2) (N := some 64) (v := ?_) (a' := ?_) #[true, true, true, false, false, false, false, false, false, false, false, false] rfl rfl (by kernel_rfl) (fun _ _ _ h => h) (Or.inl ⟨by rfl, ?_⟩) ?_ ?_
          rotate_left
          · intro w'
            go_simp
            with_reducible rfl
          rotate_left
          · simp only [Act.put, List.setIfInBounds_toArray, List.set_cons_zero, List.set_cons_succ, i64_w, i32_w]
            rfl
          refine pure_ (i := 3) (N := some 65) (v := ?_) (a' := ?_) #[true, true, true, true, false, false, false, false, false, false, false, false] rfl rfl (by kernel_rfl) (fun _ _ _ h => h) (Or.inl ⟨by rfl, ?_⟩) ?_ ?_
          rotate_left
          · intro w'
            go_simp
            with_reducible rfl
          rotate_left
          · simp only [Act.put, List.setIfInBounds_toArray, List.set_cons_zero, List.set_cons_succ, i64_w, i32_w]
            rfl
          refine pure_ (i := 4) (N := some 66) (v := ?_) (a' := ?_) #[true, true, true, true, true, false, false, false, false, false, false, false] rfl rfl (by kernel_rfl) (fun _ _ _ h => h) (Or.inl ⟨by rfl, ?_⟩) ?_ ?_
          rotate_left
          · intro w'
            go_simp
            with_reducible rfl
          rotate_left
          · simp only [Act.put, List.setIfInBounds_toArray, List.set_cons_zero, List.set_cons_succ, i64_w, i32_w]
            rfl
          refine pure_ (i := 5) (N := some 67) (v := ?_) (a' := ?_) #[true, true, true, true, true, true, false, false, false, false, false, false] rfl rfl (by kernel_rfl) (fun _ _ _ h => h) (Or.inl ⟨by rfl, ?_⟩) ?_ ?_
          rotate_left
          · intro w'
            go_simp
            with_reducible rfl
          rotate_left
          · simp only [Act.put, List.setIfInBounds_toArray, List.set_cons_zero, List.set_cons_succ, i64_w, i32_w]
            rfl
          refine pure_ (i := 6) (N := some 68) (v := ?_) (a' := ?_) #[true, true, true, true, true, true, true, false, false, false, false, false] rfl rfl (by kernel_rfl) (fun _ _ _ h => h) (Or.inl ⟨by rfl, ?_⟩) ?_ ?_
          rotate_left
          · intro w'
            go_simp
            with_reducible rfl
          rotate_left
          · simp only [Act.put, List.setIfInBounds_toArray, List.set_cons_zero, List.set_cons_succ, i64_w, i32_w]
            rfl
          refine take_ (i := 7) (N := some 69) (v := ?_) (a' := ?_) #[true, true, true, true, true, true, true, true, false, false, false, false] rfl rfl (by kernel_rfl) (fun _ _ _ h => h) (Or.inl ⟨by rfl, ?_⟩) hHeld ?_ ?_
          rotate_left
          · rintro w' ⟨s0, s1, s2, s3, s4, s5, s6, s7⟩
            go_simp
            with_reducible rfl
          rotate_left
          · simp only [Act.put, List.setIfInBounds_toArray, List.set_cons_zero, List.set_cons_succ, i64_w, i32_w]
            rfl
          refine take_ (i := 8) (N := some 70) (v := ?_) (a' := ?_) #[true, true, true, true, true, true, true, true, true, false, false, false] rfl rfl (by kernel_rfl) (fun _ _ _ h => h) (Or.inl ⟨by rfl, ?_⟩) hHeld ?_ ?_
          rotate_left
          · rintro w' ⟨s0, s1, s2, s3, s4, s5, s6, s7⟩
            go_simp
            with_reducible rfl
          rotate_left
          · simp only [Act.put, List.setIfInBounds_toArray, List.set_cons_zero, List.set_cons_succ, i64_w, i32_w]
            rfl
          refine one_ (i := 9) (N := some 71) #[true, true, true, true, true, true, true, true, true, true, false, false] rfl rfl (by kernel_rfl) (by decide) (fun K hK => ?_)
          refine value_ (w1 := ?_) (v := ?_) (by rfl) rfl ?_ ?_
          rotate_left 2
          · go_simp
            constructor
            · rfl
            · rfl
          have hal := below_alloc (Below.refl b0.heap.size b0) (.cells #[.int .i64 xi.f0, .int .i64 xi.f1, .string xi.f2, .slice Ai xi.f3.length ci, .int .i64 rj.f0, .int .i64 rj.f1, .string rj.f2, .slice A9 rj.f3.length c9] 58)
          have B_L := heap_alloc_new b0 (.cells #[.int .i64 xi.f0, .int .i64 xi.f1, .string xi.f2, .slice Ai xi.f3.length ci, .int .i64 rj.f0, .int .i64 rj.f1, .string rj.f2, .slice A9 rj.f3.length c9] 58)
          have l8_ := blk_lt B_8
          have l9_ := blk_lt B_9
          replace B_8 := blk_below B_8 hal
          replace B_9 := blk_below B_9 hal
          replace HBW := below_step HBW hal
          replace F_8 := Kd.F_below F_8 hal
          replace F_9 := Kd.F_below F_9 hal
          clear hal
          refine hK.out _ _ ⟨(blk_cell B_9 0).trans rfl, (blk_cell B_9 1).trans rfl, (blk_cell B_9 2).trans rfl, (blk_cell B_9 3).trans rfl, ck HBW f0.out, ck HBW f1.out, ck HBW f2.out, ck HBW f3.out⟩ (fun hHeld => ?_)
          clear hK K
          refine norm_ (a' := ?_) ?_ ?_
          rotate_left
          · show Act.put _ (some 71) _ = _
            simp only [Act.put, List.setIfInBounds_toArray, List.set_cons_zero, List.set_cons_succ, i64_w, i32_w]
            rfl
          refine one_ (i := 10) (N := some 72) #[true, true, true, true, true, true, true, true, true, true, true, false] rfl rfl (by kernel_rfl) (by decide) (fun K hK => ?_)
          refine goes_ Try.func34 (by kernel_rfl) rfl #[.string ⟨#[44]⟩, .slice (some ⟨b0.heap.size, 0, none⟩) 2 2] (by rfl) rfl rfl (by (try simp only [List.map_toArray, List.map_cons, List.map_nil]); first | done | rfl) ?_
          refine (f_calls _ _ _ _ _).mono ?_
          rintro e b1 ⟨rfl, hb⟩
          refine ⟨_, rfl, ?_⟩
          replace B_8 := blk_below B_8 hb
          replace B_9 := blk_below B_9 hb
          replace B_L := blk_below B_L hb
          replace HBW := below_step HBW hb
          replace F_8 := Kd.F_below F_8 hb
          replace F_9 := Kd.F_below F_9 hb
          clear hb
          refine hK.out _ _ ⟨(blk_cell B_9 0).trans rfl, (blk_cell B_9 1).trans rfl, (blk_cell B_9 2).trans rfl, (blk_cell B_9 3).trans rfl, ck HBW f0.out, ck HBW f1.out, ck HBW f2.out, ck HBW f3.out⟩ (fun hHeld => ?_)
          clear hK K
          refine norm_ (a' := ?_) ?_ ?_
          rotate_left
          · show Act.put _ (some 72) _ = _
            simp only [Act.put, List.setIfInBounds_toArray, List.set_cons_zero, List.set_cons_succ, i64_w, i32_w]
            rfl
          have hg := hg8.out
          have F_N := lit2 B_L hci.out (Kd.F_mono (Kd.F_below F_i.out HBW) (fun q hq => ⟨by have hq2 : q < wq.heap.size := hq; omega, by have hq2 : q < wq.heap.size := hq; omega⟩)) l9.out F_9
          have hGn : b0.heap.size ≠ g8 ∧ b0.heap.size ≠ g9 := ⟨by omega, by omega⟩
          refine last_ (i := 11) (N := none) #[true, true, true, true, true, true, true, true, true, true, true, true] rfl rfl (by kernel_rfl) (by decide) (fun K hK => ?_)
          have hst_ : (Instr.storeAt 58 (.pointer (some ⟨g9, 0, none⟩)) (.agg #[.int .i64 4, .int .i64 0, .string ⟨#[44]⟩, .slice (some ⟨b0.heap.size, 0, none⟩) 2 2])).run Try.prog b1 = .ok () ((((b1.setCell ⟨g9, 0, none⟩ (.int .i64 4)).setCell ⟨g9, 1, none⟩ (.int .i64 0)).setCell ⟨g9, 2, none⟩ (.string ⟨#[44]⟩)).setCell ⟨g9, 3, none⟩ (.slice (some ⟨b0.heap.size, 0, none⟩) 2 2)) := store4 B_9
          refine skip_ (by rfl) rfl (w1 := ((((b1.setCell ⟨g9, 0, none⟩ (.int .i64 4)).setCell ⟨g9, 1, none⟩ (.int .i64 0)).setCell ⟨g9, 2, none⟩ (.string ⟨#[44]⟩)).setCell ⟨g9, 3, none⟩ (.slice (some ⟨b0.heap.size, 0, none⟩) 2 2))) (ins_st hst_) ?_
          clear hst_
          obtain ⟨s1_, s2_, s3_⟩ := set4 (.int .i64 4) (.int .i64 0) (.string ⟨#[44]⟩) (.slice (some ⟨b0.heap.size, 0, none⟩) 2 2) B_9
          replace HBW := s3_ _ _ HBW (by omega)
          replace B_8 := (s2_ _ (by omega)).trans B_8
          replace B_9 := s1_
          replace F_8 := Kd.F_step F_8 (fun q hq _ => s2_ q (hq.2))
          replace F_9 := Kd.F_step F_9 (fun q hq _ => s2_ q (hq.2))
          have F_M9 := Aside0.mk (Kd.F_step (Kd.F_mono F_N (ok' := fun q => q ≠ g8 ∧ q ≠ g9) (fun q hq => by rcases hq with hq | hq; exact hq; (subst hq; exact hGn))) (fun q hq _ => s2_ q (hq.2)))
          clear s1_ s2_ s3_ F_N B_L hGn l8_ l9_ hg
          generalize ((((b1.setCell ⟨g9, 0, none⟩ (.int .i64 4)).setCell ⟨g9, 1, none⟩ (.int .i64 0)).setCell ⟨g9, 2, none⟩ (.string ⟨#[44]⟩)).setCell ⟨g9, 3, none⟩ (.slice (some ⟨b0.heap.size, 0, none⟩) 2 2)) = b2 at *
          refine hK.out _ _ ?_
          clear hK K
          refine done_ (by kernel_rfl) ?_
          have HLn : Aside0 (LS ts m wq g8 g9 (j + 1) b2) := ⟨⟨_, 2, _, 2, by rw [hLn.out]; exact B_8, by rw [hRn.out]; exact B_9, by rw [hLn.out]; exact Nat.le_refl 2, by rw [hRn.out]; exact Nat.le_refl 2, by rw [hLn.out]; exact F_8, by rw [hRn.out]; exact F_M9.out, HBW⟩⟩
          clear B_8 B_9 F_8 F_9 F_M9 HBW hHeld
          go_wp2_with fail
          go_roundw
          case rel => exact ⟨j + 1, hnum.out, hj1, HLn⟩
          case measure => exact hmeas.out
        · have hlt2 : decide ((j : Int) + 1 < (m : Int) + 1) = false := decide_eq_false (by omega)
          have hlt3 : ¬ (j : Int) + 1 < (m : Int) + 1 := by omega
          have hlt4 : ¬ (j : Int) < (m : Int) := by omega
          have hlt5 : decide (j < m) = false := decide_eq_false hlt
          obtain rfl : j = m := by have := hj.out; omega
          have hl12 : ts.length ≤ 12 := by have := hmm.out; omega
          obtain ⟨L1, L2⟩ := left_law ts hall.out hl12 j (by have := hmm.out; omega)
          obtain ⟨R1, R2⟩ := right_law ts hall.out j hmm.out hm12 j (Nat.le_refl _)
          rw [List.take_of_length_le (by have := hmm.out; omega)] at L2
          rw [Nat.sub_self, List.drop_zero] at R2
          have hfl : Aside0 ((flatAll ts).length ≤ 1000000) := ⟨by have := fm_len ts hall.out; omega⟩
          have hfs := Aside0.mk (fun k (hk : k < (flatAll ts).length) => flatAll_sz hall.out _ (rd_mem hk))
          have kl := fun W (ok : Nat → Prop) C => flat_calls 1000000 (by omega) (leftN ts j) (by omega) A8 c8 W ok C l8
          have kr := fun W (ok : Nat → Prop) C => flat_calls 1000000 (by omega) (rightN ts j j) (by omega) A9 c9 W ok C l9
          rw [L2] at kl
          rw [R2] at kr
          clear L1 L2 R1 R2
          generalize leftN ts j = lj at *
          generalize rightN ts j j = rj at *
          replace kl := Aside0.mk kl
          replace kr := Aside0.mk kr
          have HBe := below_step HBw.out HBW
          have F_g := Kd.F_below F_f.out HBW
          clear HBW hj hlt hmm hall F_o F_f hwm hml hg8 hlO hlF HBw l8 l9
          have d80 : wr.cell? ⟨g8, 0, none⟩ = some (.int .i64 lj.f0) := (blk_cell B_8 0).trans rfl
          have d90 : wr.cell? ⟨g9, 0, none⟩ = some (.int .i64 rj.f0) := (blk_cell B_9 0).trans rfl
          have d81 : wr.cell? ⟨g8, 1, none⟩ = some (.int .i64 lj.f1) := (blk_cell B_8 1).trans rfl
          have d91 : wr.cell? ⟨g9, 1, none⟩ = some (.int .i64 rj.f1) := (blk_cell B_9 1).trans rfl
          have d82 : wr.cell? ⟨g8, 2, none⟩ = some (.string lj.f2) := (blk_cell B_8 2).trans rfl
          have d92 : wr.cell? ⟨g9, 2, none⟩ = some (.string rj.f2) := (blk_cell B_9 2).trans rfl
          have d83 : wr.cell? ⟨g8, 3, none⟩ = some (.slice A8 lj.f3.length c8) := (blk_cell B_8 3).trans rfl
          have d93 : wr.cell? ⟨g9, 3, none⟩ = some (.slice A9 rj.f3.length c9) := (blk_cell B_9 3).trans rfl
          replace B_8 := Aside0.mk B_8
          replace B_9 := Aside0.mk B_9
          replace F_8 := Aside0.mk F_8
          replace F_9 := Aside0.mk F_9
          replace HBe := Aside0.mk HBe
          replace F_g := Aside0.mk F_g
          go_wp2_with fail
          replace B_8 := B_8.out
          replace B_9 := B_9.out
          replace F_8 := F_8.out
          replace F_9 := F_9.out
          replace HBe := HBe.out
          replace F_g := F_g.out
          clear d80 d81 d82 d83 d90 d91 d92 d93
          refine (kl.out _ _ (Kd.F_mono F_8 (fun q hq => hq))).mono ?_
          rintro e x1 ⟨v, rfl, N, hb⟩
          obtain ⟨Av, cv, ev⟩ := Kd.N_slice N
          subst ev
          have F_v := Kd.N_F N
          replace B_8 := blk_below B_8 hb
          replace B_9 := blk_below B_9 hb
          replace F_8 := Kd.F_below F_8 hb
          replace F_9 := Kd.F_below F_9 hb
          replace HBe := below_step HBe hb
          replace F_g := Kd.F_below F_g hb
          clear hb N
          have d80 : x1.cell? ⟨g8, 0, none⟩ = some (.int .i64 lj.f0) := (blk_cell B_8 0).trans rfl
          have d90 : x1.cell? ⟨g9, 0, none⟩ = some (.int .i64 rj.f0) := (blk_cell B_9 0).trans rfl
          have d81 : x1.cell? ⟨g8, 1, none⟩ = some (.int .i64 lj.f1) := (blk_cell B_8 1).trans rfl
          have d91 : x1.cell? ⟨g9, 1, none⟩ = some (.int .i64 rj.f1) := (blk_cell B_9 1).trans rfl
          have d82 : x1.cell? ⟨g8, 2, none⟩ = some (.string lj.f2) := (blk_cell B_8 2).trans rfl
          have d92 : x1.cell? ⟨g9, 2, none⟩ = some (.string rj.f2) := (blk_cell B_9 2).trans rfl
          have d83 : x1.cell? ⟨g8, 3, none⟩ = some (.slice A8 lj.f3.length c8) := (blk_cell B_8 3).trans rfl
          have d93 : x1.cell? ⟨g9, 3, none⟩ = some (.slice A9 rj.f3.length c9) := (blk_cell B_9 3).trans rfl
          replace B_8 := Aside0.mk B_8
          replace B_9 := Aside0.mk B_9
          replace F_8 := Aside0.mk F_8
          replace F_9 := Aside0.mk F_9
          replace HBe := Aside0.mk HBe
          replace F_g := Aside0.mk F_g
          replace F_v := Aside0.mk F_v
          go_wp2_with fail
          replace B_8 := B_8.out
          replace B_9 := B_9.out
          replace F_8 := F_8.out
          replace F_9 := F_9.out
          replace HBe := HBe.out
          replace F_g := F_g.out
          replace F_v := F_v.out
          clear d80 d81 d82 d83 d90 d91 d92 d93
          refine (all_calls (flatAll ts) hfl.out (fun k hk => hfs.out k hk) Av Af cv cf _ (Kd.F_now F_v) (Kd.F_now F_g)).mono ?_
          rintro e x2 ⟨rfl, hb⟩
          replace B_8 := blk_below B_8 hb
          replace B_9 := blk_below B_9 hb
          replace F_8 := Kd.F_below F_8 hb
          replace F_9 := Kd.F_below F_9 hb
          replace HBe := below_step HBe hb
          replace F_g := Kd.F_below F_g hb
          clear hb F_v
          have d80 : x2.cell? ⟨g8, 0, none⟩ = some (.int .i64 lj.f0) := (blk_cell B_8 0).trans rfl
          have d90 : x2.cell? ⟨g9, 0, none⟩ = some (.int .i64 rj.f0) := (blk_cell B_9 0).trans rfl
          have d81 : x2.cell? ⟨g8, 1, none⟩ = some (.int .i64 lj.f1) := (blk_cell B_8 1).trans rfl
          have d91 : x2.cell? ⟨g9, 1, none⟩ = some (.int .i64 rj.f1) := (blk_cell B_9 1).trans rfl
          have d82 : x2.cell? ⟨g8, 2, none⟩ = some (.string lj.f2) := (blk_cell B_8 2).trans rfl
          have d92 : x2.cell? ⟨g9, 2, none⟩ = some (.string rj.f2) := (blk_cell B_9 2).trans rfl
          have d83 : x2.cell? ⟨g8, 3, none⟩ = some (.slice A8 lj.f3.length c8) := (blk_cell B_8 3).trans rfl
          have d93 : x2.cell? ⟨g9, 3, none⟩ = some (.slice A9 rj.f3.length c9) := (blk_cell B_9 3).trans rfl
          replace B_8 := Aside0.mk B_8
          replace B_9 := Aside0.mk B_9
          replace F_8 := Aside0.mk F_8
          replace F_9 := Aside0.mk F_9
          replace HBe := Aside0.mk HBe
          replace F_g := Aside0.mk F_g
          go_wp2_with fail
          replace B_8 := B_8.out
          replace B_9 := B_9.out
          replace F_8 := F_8.out
          replace F_9 := F_9.out
          replace HBe := HBe.out
          replace F_g := F_g.out
          clear d80 d81 d82 d83 d90 d91 d92 d93
          refine (kr.out _ _ (Kd.F_mono F_9 (fun q hq => hq))).mono ?_
          rintro e x3 ⟨v, rfl, N, hb⟩
          obtain ⟨Av, cv, ev⟩ := Kd.N_slice N
          subst ev
          have F_v := Kd.N_F N
          replace B_8 := blk_below B_8 hb
          replace B_9 := blk_below B_9 hb
          replace F_8 := Kd.F_below F_8 hb
          replace F_9 := Kd.F_below F_9 hb
          replace HBe := below_step HBe hb
          replace F_g := Kd.F_below F_g hb
          clear hb N
          have d80 : x3.cell? ⟨g8, 0, none⟩ = some (.int .i64 lj.f0) := (blk_cell B_8 0).trans rfl
          have d90 : x3.cell? ⟨g9, 0, none⟩ = some (.int .i64 rj.f0) := (blk_cell B_9 0).trans rfl
          have d81 : x3.cell? ⟨g8, 1, none⟩ = some (.int .i64 lj.f1) := (blk_cell B_8 1).trans rfl
          have d91 : x3.cell? ⟨g9, 1, none⟩ = some (.int .i64 rj.f1) := (blk_cell B_9 1).trans rfl
          have d82 : x3.cell? ⟨g8, 2, none⟩ = some (.string lj.f2) := (blk_cell B_8 2).trans rfl
          have d92 : x3.cell? ⟨g9, 2, none⟩ = some (.string rj.f2) := (blk_cell B_9 2).trans rfl
          have d83 : x3.cell? ⟨g8, 3, none⟩ = some (.slice A8 lj.f3.length c8) := (blk_cell B_8 3).trans rfl
          have d93 : x3.cell? ⟨g9, 3, none⟩ = some (.slice A9 rj.f3.length c9) := (blk_cell B_9 3).trans rfl
          replace B_8 := Aside0.mk B_8
          replace B_9 := Aside0.mk B_9
          replace F_8 := Aside0.mk F_8
          replace F_9 := Aside0.mk F_9
          replace HBe := Aside0.mk HBe
          replace F_g := Aside0.mk F_g
          replace F_v := Aside0.mk F_v
          go_wp2_with fail
          replace B_8 := B_8.out
          replace B_9 := B_9.out
          replace F_8 := F_8.out
          replace F_9 := F_9.out
          replace HBe := HBe.out
          replace F_g := F_g.out
          replace F_v := F_v.out
          clear d80 d81 d82 d83 d90 d91 d92 d93
          refine (all_calls (flatAll ts) hfl.out (fun k hk => hfs.out k hk) Av Af cv cf _ (Kd.F_now F_v) (Kd.F_now F_g)).mono ?_
          rintro e x4 ⟨rfl, hb⟩
          replace B_8 := blk_below B_8 hb
          replace B_9 := blk_below B_9 hb
          replace F_8 := Kd.F_below F_8 hb
          replace F_9 := Kd.F_below F_9 hb
          replace HBe := below_step HBe hb
          replace F_g := Kd.F_below F_g hb
          clear hb F_v
          have d80 : x4.cell? ⟨g8, 0, none⟩ = some (.int .i64 lj.f0) := (blk_cell B_8 0).trans rfl
          have d90 : x4.cell? ⟨g9, 0, none⟩ = some (.int .i64 rj.f0) := (blk_cell B_9 0).trans rfl
          have d81 : x4.cell? ⟨g8, 1, none⟩ = some (.int .i64 lj.f1) := (blk_cell B_8 1).trans rfl
          have d91 : x4.cell? ⟨g9, 1, none⟩ = some (.int .i64 rj.f1) := (blk_cell B_9 1).trans rfl
          have d82 : x4.cell? ⟨g8, 2, none⟩ = some (.string lj.f2) := (blk_cell B_8 2).trans rfl
          have d92 : x4.cell? ⟨g9, 2, none⟩ = some (.string rj.f2) := (blk_cell B_9 2).trans rfl
          have d83 : x4.cell? ⟨g8, 3, none⟩ = some (.slice A8 lj.f3.length c8) := (blk_cell B_8 3).trans rfl
          have d93 : x4.cell? ⟨g9, 3, none⟩ = some (.slice A9 rj.f3.length c9) := (blk_cell B_9 3).trans rfl
          replace B_8 := Aside0.mk B_8
          replace B_9 := Aside0.mk B_9
          replace F_8 := Aside0.mk F_8
          replace F_9 := Aside0.mk F_9
          replace HBe := Aside0.mk HBe
          replace F_g := Aside0.mk F_g
          go_wp2_with fail
          replace B_8 := B_8.out
          replace B_9 := B_9.out
          replace F_8 := F_8.out
          replace F_9 := F_9.out
          replace HBe := HBe.out
          replace F_g := F_g.out
          clear d80 d81 d82 d83 d90 d91 d92 d93
          go_ret
          exact ⟨rfl, HBe⟩
end Go.Proofs.Ythdnaliahdohhaa.H
