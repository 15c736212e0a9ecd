/- Goals: the goals of a body, one behind the other (goal.Flat). -/
import Derived.Test.YthdnaliahdohhaaHHbody
namespace Go.Proofs.Ythdnaliahdohhaa.H
open Go.RowKit Go.Proofs.YthdnaliahdohhaaW.PrintWords Go.Proofs.YthdnaliahdohhaaW.PrintLast Go.Proofs.YthdnaliahdohhaaW.PrintMore Go.Proofs.Ythdnaliahdohhaa.Map Go.Proofs.Ythdnaliahdohhaa.Reg
attribute [local go_sem] max2_int min2_int max_two min_two max_three min_three max_four min_four
set_option linter.unusedVariables false
set_option linter.unusedSimpArgs false
/-- a body's goals -/
def flatN : Nat → S58 → List S58
  | 0, x => [x]
  | n + 1, x => if kindV x = 2 then flatN n (rd_T58 x.f3 (0 : Nat)) ++ flatN n (rd_T58 x.f3 (1 : Nat)) else [x]
theorem kind2 {x : S58} (h : kindV x = 2) : partedB x = true ∧ x.f3.length = 2 := by
  have hp : partedB x = true := by unfold partedB; simp [h]
  exact ⟨hp, (parted_two hp).1⟩
theorem flatN_len : ∀ (n : Nat) (x : S58), (flatN n x).length ≤ szT x
  | 0, x => by have := szT_eq x; simp [flatN]; omega
  | n + 1, x => by
    unfold flatN
    split
    · next h =>
      have hl := (kind2 h).2
      have h1 := flatN_len n (rd_T58 x.f3 (0 : Nat))
      have h2 := flatN_len n (rd_T58 x.f3 (1 : Nat))
      have h3 : szL x.f3 = szT (rd_T58 x.f3 (0 : Nat)) + szT (rd_T58 x.f3 (1 : Nat)) := by
        obtain ⟨k, m, s, l⟩ := x
        match l, hl with
        | [a, b], _ => simp [szL, rd_T58]
      have := szT_eq x
      rw [List.length_append]; omega
    · have := szT_eq x; simp; omega
/-- A literal of one term, made just now: a row of one's own. -/
theorem N_lit1 {W : World} {base : Nat} {ok okp : Nat → Prop} {x : S58} {A : Option Addr} {c : Nat} (hc : x.f3.length ≤ c) (hF : Kd.F k58 W okp A x.f3.length x.f3) (hok : ∀ k, okp k → ok k) (hfresh : ok W.heap.size) (hb : base ≤ W.heap.size) :
    Kd.N k58 58 (W.alloc (.cells #[.int .i64 x.f0, .int .i64 x.f1, .string x.f2, .slice A x.f3.length c] 58)) base ok (.slice (some ⟨W.heap.size, 0, none⟩) 1 1) [x] := by
  have hr : Reps (Kd.FK k58 W okp) k58.sz [x] [.int .i64 x.f0, .int .i64 x.f1, .string x.f2, .slice A x.f3.length c] := by
    refine ⟨rfl, fun j p hj => ?_⟩
    obtain rfl : j = 0 := by have := (List.getElem?_eq_some_iff.1 hj).1; simp at this; omega
    simp at hj
    subst hj
    exact k58_mkF W okp x hc hF
  refine Kd.N_made (d := k58) (W := W) (rows := Kd.chunks k58.sz [x].length [.int .i64 x.f0, .int .i64 x.f1, .string x.f2, .slice A x.f3.length c]) (okp := okp) ⟨fun k hk => ?_, ?_⟩ (World.grownBy_alloc W _ none) ⟨W.heap.size, rfl, Nat.le_refl _⟩ (Kd.chunks_length _ _ _) (fun j y c hy hc => by rw [Kd.chunks_get hc]; exact hr.2 j y hy) hok hfresh
  · have : W.heap.size = k := by simpa [Value.ownBlock] using hk
    exact this.symm
  · have := OwnRow.lit (e := 58) W base (Kd.reps_raw hr (fun y c hk => ⟨k58.K_len (Kd.FK_now hk), k58.K_one (Kd.FK_now hk)⟩)) hb (by simp [Kd.chunks_length])
    exact this
set_option maxHeartbeats 8000000 in
set_option maxRecDepth 100000 in
theorem flat_one (n : Nat) (x : S58) (hx : szT x ≤ 1000000) (A : Option Addr) (c : Nat) (w : World) (ok : Nat → Prop) (hF : Kd.F k58 w ok A x.f3.length x.f3) (hc : x.f3.length ≤ c) (hk : ¬ kindV x = 2) :
    Calls Try.prog 43 #[.agg #[.int .i64 x.f0, .int .i64 x.f1, .string x.f2, .slice A x.f3.length c]] w fun e w' => ∃ v, e = .returned v ∧ Kd.N k58 58 w' w.heap.size (fun k => w.heap.size ≤ k) v (flatN (n + 1) x) ∧ Below w.heap.size w w' := by
  have HB := Below.refl w.heap.size w
  have HV : Aside0 (flatN (n + 1) x = [x]) := ⟨by unfold flatN; rw [if_neg hk]⟩
  have Hown := Aside0.mk (fun W hC => own_calls 1000000 (by omega) x hx A c W hC hc)
  have Hk := Aside0.mk (kind_calls x A c)
  obtain ⟨kv, hkv⟩ : ∃ kv, kindV x = kv := ⟨_, rfl⟩
  rw [hkv] at hk Hk
  have q1 : (kv == 2) = false := by simpa using hk
  have q2 : (kv != 2) = true := by simpa using hk
  clear hkv hk hx hc
  have F_x := hF
  clear hF
  have Hb := Aside0.mk (below_alloc (Below.refl w.heap.size w) (.cells #[.int .i64 x.f0, .int .i64 x.f1, .string x.f2, .slice A x.f3.length c] 58))
  go_enter Try.func43, Try.ntmps43
  have hal : Below w.heap.size w (w.alloc (.cells #[.int .i64 x.f0, .int .i64 x.f1, .string x.f2, .slice A x.f3.length c] 58)) := below_alloc (Below.refl _ _) (.cells #[.int .i64 x.f0, .int .i64 x.f1, .string x.f2, .slice A x.f3.length c] 58)
  replace HB := below_step HB hal
  replace F_x := Kd.F_below F_x hal
  have B_x := heap_alloc_new w (.cells #[.int .i64 x.f0, .int .i64 x.f1, .string x.f2, .slice A x.f3.length c] 58)
  have hz : w.heap.size = w.heap.size + 0 := by rfl
  skip
  clear hz
  clear hal
  have d0 : (w.alloc (.cells #[.int .i64 x.f0, .int .i64 x.f1, .string x.f2, .slice A x.f3.length c] 58)).cell? ⟨w.heap.size, 0, none⟩ = some (.int .i64 x.f0) := (blk_cell B_x 0).trans rfl
  have d1 : (w.alloc (.cells #[.int .i64 x.f0, .int .i64 x.f1, .string x.f2, .slice A x.f3.length c] 58)).cell? ⟨w.heap.size, 1, none⟩ = some (.int .i64 x.f1) := (blk_cell B_x 1).trans rfl
  have d2 : (w.alloc (.cells #[.int .i64 x.f0, .int .i64 x.f1, .string x.f2, .slice A x.f3.length c] 58)).cell? ⟨w.heap.size, 2, none⟩ = some (.string x.f2) := (blk_cell B_x 2).trans rfl
  have d3 : (w.alloc (.cells #[.int .i64 x.f0, .int .i64 x.f1, .string x.f2, .slice A x.f3.length c] 58)).cell? ⟨w.heap.size, 3, none⟩ = some (.slice A x.f3.length c) := (blk_cell B_x 3).trans rfl
  replace HB := Aside0.mk HB
  replace B_x := Aside0.mk B_x
  replace F_x := Aside0.mk F_x
  go_wp2_with fail
  replace HB := HB.out
  replace B_x := B_x.out
  replace F_x := F_x.out
  clear d0 d1 d2 d3
  refine (Hk.out _).mono ?_
  rintro e w1 ⟨rfl, hb⟩
  replace HB := below_step HB hb
  replace B_x := blk_below B_x hb
  replace F_x := Kd.F_below F_x hb
  clear hb
  have d0 : w1.cell? ⟨w.heap.size, 0, none⟩ = some (.int .i64 x.f0) := (blk_cell B_x 0).trans rfl
  have d1 : w1.cell? ⟨w.heap.size, 1, none⟩ = some (.int .i64 x.f1) := (blk_cell B_x 1).trans rfl
  have d2 : w1.cell? ⟨w.heap.size, 2, none⟩ = some (.string x.f2) := (blk_cell B_x 2).trans rfl
  have d3 : w1.cell? ⟨w.heap.size, 3, none⟩ = some (.slice A x.f3.length c) := (blk_cell B_x 3).trans rfl
  replace HB := Aside0.mk HB
  replace B_x := Aside0.mk B_x
  replace F_x := Aside0.mk F_x
  go_wp2_with fail
  replace HB := HB.out
  replace B_x := B_x.out
  replace F_x := F_x.out
  clear d0 d1 d2 d3
  have HB1 : Aside0 (w.heap.size ≤ w1.heap.size) := ⟨HB.size⟩
  refine (Hown.out _ (Kd.F_now F_x)).mono ?_
  rintro e w2 ⟨A2, c2, rfl, hc2, F_2, hb⟩
  replace HB := below_step HB hb
  replace B_x := blk_below B_x hb
  replace F_x := Kd.F_below F_x hb
  skip
  clear hb
  replace HB := Aside0.mk HB
  replace B_x := Aside0.mk B_x
  replace F_x := Aside0.mk F_x
  go_wp2_with fail
  replace HB := HB.out
  replace B_x := B_x.out
  replace F_x := F_x.out
  go_ret
  refine ⟨_, rfl, ?_, below_alloc HB _⟩
  rw [HV.out]
  have hs2 : w.heap.size ≤ w1.heap.size := HB1.out
  exact N_lit1 (okp := fun k => w1.heap.size ≤ k) hc2 F_2 (fun k hk => Nat.le_trans hs2 hk) HB.size HB.size
def FlatAt (n : Nat) : Prop := ∀ (x : S58) (hx : szT x ≤ n) (A : Option Addr) (c : Nat) (w : World) (ok : Nat → Prop) (hF : Kd.F k58 w ok A x.f3.length x.f3) (hc : x.f3.length ≤ c), Calls Try.prog 43 #[.agg #[.int .i64 x.f0, .int .i64 x.f1, .string x.f2, .slice A x.f3.length c]] w fun e w' => ∃ v, e = .returned v ∧ Kd.N k58 58 w' w.heap.size (fun k => w.heap.size ≤ k) v (flatN n x) ∧ Below w.heap.size w w'
theorem flat_sz {n : Nat} {k m : Int} {s : ByteArray} {a b : S58} (hx : szT ⟨k, m, s, [a, b]⟩ ≤ n + 1 ∧ n + 1 ≤ 1000000) : szT a ≤ n ∧ szT b ≤ n := by
  have : szT ⟨k, m, s, [a, b]⟩ = szT a + szT b + 1 := by simp [szT, szL]
  omega
theorem flat_bound (n : Nat) {k m : Int} {s : ByteArray} {a b : S58} (hx : szT ⟨k, m, s, [a, b]⟩ ≤ n + 1 ∧ n + 1 ≤ 1000000) : ((flatN n a).length + (flatN n b).length) * 56 ≤ 140737488355328 := by
  have := flatN_len n a
  have := flatN_len n b
  have := flat_sz hx
  omega
set_option maxHeartbeats 8000000 in
set_option maxRecDepth 100000 in
theorem flat_two (n : Nat) (ih : FlatAt n) (k m : Int) (s : ByteArray) (a b : S58) (hx : szT ⟨k, m, s, [a, b]⟩ ≤ n + 1 ∧ n + 1 ≤ 1000000) (ad : Addr) (c : Nat) (w : World) (ok : Nat → Prop) (hk : kindV ⟨k, m, s, [a, b]⟩ = 2) (A1 A2 : Option Addr) (c1 c2 : Nat) (e0 : w.cell? ad = some (.int .i64 a.f0)) (e1 : w.cell? ⟨ad.block, ad.off + 1, none⟩ = some (.int .i64 a.f1)) (e2 : w.cell? ⟨ad.block, ad.off + 2, none⟩ = some (.string a.f2)) (e3 : w.cell? ⟨ad.block, ad.off + 3, none⟩ = some (.slice A1 a.f3.length c1)) (e4 : w.cell? ⟨ad.block, ad.off + 4, none⟩ = some (.int .i64 b.f0)) (e5 : w.cell? ⟨ad.block, ad.off + 4 + 1, none⟩ = some (.int .i64 b.f1)) (e6 : w.cell? ⟨ad.block, ad.off + 4 + 2, none⟩ = some (.string b.f2)) (e7 : w.cell? ⟨ad.block, ad.off + 4 + 3, none⟩ = some (.slice A2 b.f3.length c2)) (hc1 : a.f3.length ≤ c1) (hc2 : b.f3.length ≤ c2) (hFa : Kd.F k58 w ok A1 a.f3.length a.f3) (hFb : Kd.F k58 w ok A2 b.f3.length b.f3) :
    Calls Try.prog 43 #[.agg #[.int .i64 k, .int .i64 m, .string s, .slice (some ad) 2 c]] w fun e w' => ∃ v, e = .returned v ∧ Kd.N k58 58 w' w.heap.size (fun k => w.heap.size ≤ k) v (flatN (n + 1) ⟨k, m, s, [a, b]⟩) ∧ Below w.heap.size w w' := by
  have HB := Below.refl w.heap.size w
  have HV : Aside0 (flatN (n + 1) ⟨k, m, s, [a, b]⟩ = flatN n a ++ flatN n b) := ⟨by rw [flatN, if_pos hk]; rfl⟩
  have Hk := Aside0.mk (kind_calls ⟨k, m, s, [a, b]⟩ (some ad) c)
  rw [hk] at Hk
  clear hk
  have HL := Aside0.mk (flat_bound n hx)
  have Iha := Aside0.mk (fun W h => ih a (flat_sz hx).1 A1 c1 W ok h hc1)
  have Ihb := Aside0.mk (fun W h => ih b (flat_sz hx).2 A2 c2 W ok h hc2)
  clear ih hx hc1 hc2
  replace e0 := Aside0.mk e0
  replace e1 := Aside0.mk e1
  replace e2 := Aside0.mk e2
  replace e3 := Aside0.mk e3
  replace e4 := Aside0.mk e4
  replace e5 := Aside0.mk e5
  replace e6 := Aside0.mk e6
  replace e7 := Aside0.mk e7
  have F_a := hFa
  have F_b := hFb
  clear hFa hFb
  go_enter Try.func43, Try.ntmps43
  have hal : Below w.heap.size w (w.alloc (.cells #[.int .i64 k, .int .i64 m, .string s, .slice (some ad) 2 c] 58)) := below_alloc (Below.refl _ _) (.cells #[.int .i64 k, .int .i64 m, .string s, .slice (some ad) 2 c] 58)
  replace HB := below_step HB hal
  replace F_a := Kd.F_below F_a hal
  replace F_b := Kd.F_below F_b hal
  have B_x := heap_alloc_new w (.cells #[.int .i64 k, .int .i64 m, .string s, .slice (some ad) 2 c] 58)
  have hz : w.heap.size = w.heap.size + 0 := by rfl
  skip
  clear hz
  clear hal
  have d0 : (w.alloc (.cells #[.int .i64 k, .int .i64 m, .string s, .slice (some ad) 2 c] 58)).cell? ⟨w.heap.size, 0, none⟩ = some (.int .i64 k) := (blk_cell B_x 0).trans rfl
  have d1 : (w.alloc (.cells #[.int .i64 k, .int .i64 m, .string s, .slice (some ad) 2 c] 58)).cell? ⟨w.heap.size, 1, none⟩ = some (.int .i64 m) := (blk_cell B_x 1).trans rfl
  have d2 : (w.alloc (.cells #[.int .i64 k, .int .i64 m, .string s, .slice (some ad) 2 c] 58)).cell? ⟨w.heap.size, 2, none⟩ = some (.string s) := (blk_cell B_x 2).trans rfl
  have d3 : (w.alloc (.cells #[.int .i64 k, .int .i64 m, .string s, .slice (some ad) 2 c] 58)).cell? ⟨w.heap.size, 3, none⟩ = some (.slice (some ad) 2 c) := (blk_cell B_x 3).trans rfl
  replace HB := Aside0.mk HB
  replace B_x := Aside0.mk B_x
  replace F_a := Aside0.mk F_a
  replace F_b := Aside0.mk F_b
  go_wp2_with fail
  replace HB := HB.out
  replace B_x := B_x.out
  replace F_a := F_a.out
  replace F_b := F_b.out
  clear d0 d1 d2 d3
  refine (Hk.out _).mono ?_
  rintro e w1 ⟨rfl, hb⟩
  replace HB := below_step HB hb
  replace B_x := blk_below B_x hb
  replace F_a := Kd.F_below F_a hb
  replace F_b := Kd.F_below F_b hb
  clear hb
  have d0 : w1.cell? ⟨w.heap.size, 0, none⟩ = some (.int .i64 k) := (blk_cell B_x 0).trans rfl
  have d1 : w1.cell? ⟨w.heap.size, 1, none⟩ = some (.int .i64 m) := (blk_cell B_x 1).trans rfl
  have d2 : w1.cell? ⟨w.heap.size, 2, none⟩ = some (.string s) := (blk_cell B_x 2).trans rfl
  have d3 : w1.cell? ⟨w.heap.size, 3, none⟩ = some (.slice (some ad) 2 c) := (blk_cell B_x 3).trans rfl
  replace HB := Aside0.mk HB
  replace B_x := Aside0.mk B_x
  replace F_a := Aside0.mk F_a
  replace F_b := Aside0.mk F_b
  go_wp2_with fail
  replace HB := HB.out
  replace B_x := B_x.out
  replace F_a := F_a.out
  replace F_b := F_b.out
  clear d0 d1 d2 d3
  refine start_ (n := 12) (S := fun w' => w'.cell? ⟨w.heap.size, 3, none⟩ = some (.slice (some ad) 2 c) ∧ w'.cell? ad = some (.int .i64 a.f0) ∧ w'.cell? ⟨ad.block, ad.off + 1, none⟩ = some (.int .i64 a.f1) ∧ w'.cell? ⟨ad.block, ad.off + 2, none⟩ = some (.string a.f2) ∧ w'.cell? ⟨ad.block, ad.off + 3, none⟩ = some (.slice A1 a.f3.length c1) ∧ w'.cell? ⟨ad.block, ad.off + 4, none⟩ = some (.int .i64 b.f0) ∧ w'.cell? ⟨ad.block, ad.off + 4 + 1, none⟩ = some (.int .i64 b.f1) ∧ w'.cell? ⟨ad.block, ad.off + 4 + 2, none⟩ = some (.string b.f2) ∧ w'.cell? ⟨ad.block, ad.off + 4 + 3, none⟩ = some (.slice A2 b.f3.length c2)) (ds := [10]) #[false, false, false, false, false, false, false, false, false, false, false, false] (by kernel_rfl) rfl rfl ⟨(blk_cell (blk_drew B_x) 3).trans rfl, ck HB.drew e0.out, ck HB.drew e1.out, ck HB.drew e2.out, ck HB.drew e3.out, ck HB.drew e4.out, ck HB.drew e5.out, ck HB.drew e6.out, ck HB.drew e7.out⟩ (fun hHeld => ?_)
  replace B_x := blk_drew B_x
  replace HB := HB.drew
  replace F_a := Kd.F_drew F_a
  replace F_b := Kd.F_drew F_b
  generalize w1.drew = v0 at *
  refine pure_ (i := 0) (N := some 9) (v := ?_) (a' := ?_) #[true, false, false, false, false, false, false, false, false, false, false, false] rfl rfl (by kernel_rfl) (fun _ _ _ h => h) (Or.inl ⟨by rfl, ?_⟩) ?_ ?_
  rotate_left
  · intro w'
    go_simp
    with_reducible rfl
  rotate_left
  · simp only [Act.put, List.setIfInBounds_toArray, List.set_cons_zero, List.set_cons_succ, i64_w, i32_w]
    rfl
  refine take_ (i := 1) (N := some 10) (v := ?_) (a' := ?_) #[true, true, false, false, false, false, false, false, false, false, false, false] rfl rfl (by kernel_rfl) (fun _ _ _ h => h) (Or.inl ⟨by rfl, ?_⟩) hHeld ?_ ?_
  rotate_left
  · rintro w' ⟨s0, s1, s2, s3, s4, s5, s6, s7, s8⟩
    go_simp
    with_reducible rfl
  rotate_left
  · simp only [Act.put, List.setIfInBounds_toArray, List.set_cons_zero, List.set_cons_succ, i64_w, i32_w]
    rfl
  refine pure_ (i := 2) (N := some 11) (v := ?_) (a' := ?_) #[true, true, true, false, false, false, false, false, false, false, false, false] rfl rfl (by kernel_rfl) (fun _ _ _ h => h) (Or.inl ⟨by rfl, ?_⟩) ?_ ?_
  rotate_left
  · intro w'
    go_simp
    with_reducible rfl
  rotate_left
  · simp only [Act.put, List.setIfInBounds_toArray, List.set_cons_zero, List.set_cons_succ, i64_w, i32_w]
    rfl
  refine take_ (i := 3) (N := some 12) (v := ?_) (a' := ?_) #[true, true, true, true, false, false, false, false, false, false, false, false] rfl rfl (by kernel_rfl) (fun _ _ _ h => h) (Or.inl ⟨by rfl, ?_⟩) hHeld ?_ ?_
  rotate_left
  · rintro w' ⟨s0, s1, s2, s3, s4, s5, s6, s7, s8⟩
    go_simp
    with_reducible rfl
  rotate_left
  · simp only [Act.put, List.setIfInBounds_toArray, List.set_cons_zero, List.set_cons_succ, i64_w, i32_w]
    rfl
  refine pure_ (i := 5) (N := some 14) (v := ?_) (a' := ?_) #[true, true, true, true, false, true, false, false, false, false, false, false] rfl rfl (by kernel_rfl) (fun _ _ _ h => h) (Or.inl ⟨by rfl, ?_⟩) ?_ ?_
  rotate_left
  · intro w'
    go_simp
    with_reducible rfl
  rotate_left
  · simp only [Act.put, List.setIfInBounds_toArray, List.set_cons_zero, List.set_cons_succ, i64_w, i32_w]
    rfl
  refine take_ (i := 6) (N := some 15) (v := ?_) (a' := ?_) #[true, true, true, true, false, true, true, false, false, false, false, false] rfl rfl (by kernel_rfl) (fun _ _ _ h => h) (Or.inl ⟨by rfl, ?_⟩) hHeld ?_ ?_
  rotate_left
  · rintro w' ⟨s0, s1, s2, s3, s4, s5, s6, s7, s8⟩
    go_simp
    with_reducible rfl
  rotate_left
  · simp only [Act.put, List.setIfInBounds_toArray, List.set_cons_zero, List.set_cons_succ, i64_w, i32_w]
    rfl
  refine pure_ (i := 7) (N := some 16) (v := ?_) (a' := ?_) #[true, true, true, true, false, true, true, true, false, false, false, false] rfl rfl (by kernel_rfl) (fun _ _ _ h => h) (Or.inl ⟨by rfl, ?_⟩) ?_ ?_
  rotate_left
  · intro w'
    go_simp
    with_reducible rfl
  rotate_left
  · simp only [Act.put, List.setIfInBounds_toArray, List.set_cons_zero, List.set_cons_succ, i64_w, i32_w]
    rfl
  refine take_ (i := 8) (N := some 17) (v := ?_) (a' := ?_) #[true, true, true, true, false, true, true, true, true, false, false, false] rfl rfl (by kernel_rfl) (fun _ _ _ h => h) (Or.inl ⟨by rfl, ?_⟩) hHeld ?_ ?_
  rotate_left
  · rintro w' ⟨s0, s1, s2, s3, s4, s5, s6, s7, s8⟩
    go_simp
    with_reducible rfl
  rotate_left
  · simp only [Act.put, List.setIfInBounds_toArray, List.set_cons_zero, List.set_cons_succ, i64_w, i32_w]
    rfl
  refine one_ (i := 4) (N := some 13) #[true, true, true, true, true, true, true, true, true, false, false, false] rfl rfl (by kernel_rfl) (by decide) (fun K hK => ?_)
  refine goes_ Try.func43 (by kernel_rfl) rfl #[.agg #[.int .i64 a.f0, .int .i64 a.f1, .string a.f2, .slice A1 a.f3.length c1]] (by rfl) rfl rfl (by (try simp only [List.map_toArray, List.map_cons, List.map_nil]); first | done | rfl) ?_
  refine (Iha.out _ F_a).mono ?_
  rintro e v1 ⟨uN1, rfl, N1, hb⟩
  refine ⟨_, rfl, ?_⟩
  replace B_x := blk_below B_x hb
  have hs0 : w.heap.size ≤ v0.heap.size := HB.size
  replace N1 := Kd.N_lower N1 hs0
  have hlt := Kd.N_lt N1
  replace HB := below_step HB hb
  replace F_a := Kd.F_below F_a hb
  replace F_b := Kd.F_below F_b hb
  clear hb
  refine hK.out _ _ ⟨(blk_cell B_x 3).trans rfl, ck HB e0.out, ck HB e1.out, ck HB e2.out, ck HB e3.out, ck HB e4.out, ck HB e5.out, ck HB e6.out, ck HB e7.out⟩ (fun hHeld => ?_)
  clear hK K
  refine norm_ (a' := ?_) ?_ ?_
  rotate_left
  · show Act.put _ (some 13) _ = _
    simp only [Act.put, List.setIfInBounds_toArray, List.set_cons_zero, List.set_cons_succ, i64_w, i32_w]
    rfl
  refine one_ (i := 9) (N := some 18) #[true, true, true, true, true, true, true, true, true, true, false, false] rfl rfl (by kernel_rfl) (by decide) (fun K hK => ?_)
  refine goes_ Try.func43 (by kernel_rfl) rfl #[.agg #[.int .i64 b.f0, .int .i64 b.f1, .string b.f2, .slice A2 b.f3.length c2]] (by rfl) rfl rfl (by (try simp only [List.map_toArray, List.map_cons, List.map_nil]); first | done | rfl) ?_
  refine (Ihb.out _ F_b).mono ?_
  rintro e v2 ⟨uN2, rfl, N2, hb⟩
  refine ⟨_, rfl, ?_⟩
  replace B_x := blk_below B_x hb
  replace N1 := Kd.N_below N1 hb
  have hs1 : v1.heap.size ≤ v2.heap.size := hb.size
  have hs01 : w.heap.size ≤ v1.heap.size := HB.size
  replace HB := below_step HB hb
  replace F_a := Kd.F_below F_a hb
  replace F_b := Kd.F_below F_b hb
  clear hb
  refine hK.out _ _ ⟨(blk_cell B_x 3).trans rfl, ck HB e0.out, ck HB e1.out, ck HB e2.out, ck HB e3.out, ck HB e4.out, ck HB e5.out, ck HB e6.out, ck HB e7.out⟩ (fun hHeld => ?_)
  clear hK K
  refine norm_ (a' := ?_) ?_ ?_
  rotate_left
  · show Act.put _ (some 18) _ = _
    simp only [Act.put, List.setIfInBounds_toArray, List.set_cons_zero, List.set_cons_succ, i64_w, i32_w]
    rfl
  obtain ⟨A9, c9, e9⟩ := Kd.N_slice N2
  subst e9
  refine last_ (i := 10) (N := some 19) #[true, true, true, true, true, true, true, true, true, true, true, false] rfl rfl (by kernel_rfl) (by decide) (fun K hK => ?_)
  refine Kd.N_append_rows_step k58 (w0 := w) w.heap.size (by rfl) (.tmp 13) (.tmp 18) 56 58 (.agg #[(.int .i64 0), (.int .i64 0), (.string ⟨#[]⟩), (.slice none 0 0)]) 56 rfl Try.underlying56 info58 rfl (by decide) (by omega) uN1 (flatN n a) (flatN n b) A9 (flatN n b).length c9 (fun k => w.heap.size ≤ k) (fun k => v1.heap.size ≤ k) rfl rfl (Kd.N_mono N1 (fun k hk => Nat.le_trans hs0 hk)) (Kd.N_F N2) (fun k hk => ⟨Nat.le_trans hs01 hk, fun he => by have h8 := hlt k he.symm; have hk2 : v1.heap.size ≤ k := hk; omega⟩) (fun k hk => Nat.le_trans (Nat.le_trans hs01 hs1) hk) HB HB.size HL.out ?_
  intro v8 w8 N8 HB8 hg8 hat8
  refine hK.out _ _ ?_
  clear hK K
  refine norm_ (a' := ?_) ?_ ?_
  rotate_left
  · show Act.put _ (some 19) _ = _
    simp only [Act.put, List.setIfInBounds_toArray, List.set_cons_zero, List.set_cons_succ, i64_w, i32_w]
    rfl
  refine pure_ (i := 11) (N := some 2) (v := ?_) (a' := ?_) #[true, true, true, true, true, true, true, true, true, true, true, true] rfl rfl (by kernel_rfl) (fun _ _ _ h => h) (Or.inl ⟨by rfl, ?_⟩) ?_ ?_
  rotate_left
  · intro w'
    go_simp
    with_reducible rfl
  rotate_left
  · simp only [Act.put, List.setIfInBounds_toArray, List.set_cons_zero, List.set_cons_succ, i64_w, i32_w]
    rfl
  refine done_ (by kernel_rfl) ?_
  replace N8 := Aside0.mk N8
  replace HB8 := Aside0.mk HB8
  clear hg8 hat8 N1 N2 HB F_a F_b B_x
  go_wp2_with fail
  go_ret
  exact ⟨_, rfl, by rw [HV.out]; exact N8.out, HB8.out⟩
theorem flat_calls (n : Nat) (hn : n ≤ 1000000) : FlatAt n := by
  induction n with
  | zero => intro x hx; have := szT_eq x; omega
  | succ n ih0 =>
  have ih := ih0 (by omega)
  intro x hx A c w ok hF hc
  by_cases hk : kindV x = 2
  · have hl2 := (kind2 hk).2
    obtain ⟨ad, B1, d1, ead, e0, e1, e2, e3, hd1, hF1⟩ := at_F hF ((0 : Nat) : Int) (by omega) (by omega)
    obtain ⟨ad', B2, d2, ead', e4, e5, e6, e7, hd2, hF2⟩ := at_F hF ((1 : Nat) : Int) (by omega) (by omega)
    obtain rfl : ad = ad' := by rw [ead] at ead'; injection ead'
    obtain ⟨k, m, s, l⟩ := x
    obtain ⟨a, b, rfl⟩ : ∃ a b, l = [a, b] := by
      match l, hl2 with
      | [a, b], _ => exact ⟨a, b, rfl⟩
    have hr0 : rd_T58 [a, b] ((0 : Nat) : Int) = a := rfl
    have hr1 : rd_T58 [a, b] ((1 : Nat) : Int) = b := rfl
    try dsimp only at e0 e1 e2 e3 e4 e5 e6 e7 hd1 hd2 hF1 hF2
    rw [hr0] at e0 e1 e2 e3 hd1 hF1
    rw [hr1] at e4 e5 e6 e7 hd2 hF2
    try dsimp only at ead
    subst ead
    exact flat_two n ih k m s a b ⟨hx, hn⟩ ad c w ok hk B1 B2 d1 d2 e0 e1 e2 e3 e4 e5 e6 e7 hd1 hd2 hF1 hF2
  · exact flat_one n x (by omega) A c w ok hF hc hk
end Go.Proofs.Ythdnaliahdohhaa.H
