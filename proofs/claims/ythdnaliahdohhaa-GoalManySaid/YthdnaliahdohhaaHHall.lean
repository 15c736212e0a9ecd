/- The same lists (prolixref03.All), of equal lists. -/
import Derived.Test.YthdnaliahdohhaaHHalive
import Derived.Test.YthdnaliahdohhaaHHflat
namespace Go.Proofs.Ythdnaliahdohhaa.H
open Go.RowKit Go.Proofs.YthdnaliahdohhaaW.PrintWords Go.Proofs.YthdnaliahdohhaaW.PrintLast Go.Proofs.YthdnaliahdohhaaW.PrintMore Go.Proofs.Ythdnaliahdohhaa.Map Go.Proofs.Ythdnaliahdohhaa.Reg
attribute [local go_sem] max2_int min2_int max_two min_two max_three min_three max_four min_four
set_option linter.unusedVariables false
set_option linter.unusedSimpArgs false
set_option maxHeartbeats 8000000 in
set_option maxRecDepth 100000 in
theorem all_calls (l : List S58) (hl : l.length ≤ 1000000) (hz : ∀ k : Nat, k < l.length → szT (rd_T58 l k) ≤ 1000000) (A0 A1 : Option Addr) (c0 c1 : Nat) (w : World) (h0 : Kd.C k58 w A0 l.length l) (h1 : Kd.C k58 w A1 l.length l) :
    Calls Try.prog 44 #[.slice A0 l.length c0, .slice A1 l.length c1] w fun e w' => e = .returned (.bool true) ∧ Below w.heap.size w w' := by
  have HC0 := Aside0.mk h0
  have HC1 := Aside0.mk h1
  have Hz := Aside0.mk hz
  have hlm : l.length ≤ 9223372036854775807 := by omega
  have hne : ((l.length : Int) != (l.length : Int)) = false := by simp
  have B0 := Aside0.mk (Below.refl w.heap.size w)
  clear h0 h1 hz
  go_enter Try.func44, Try.ntmps44
  go_wp2_with fail
  go_loopw [13, 5] (fun i j wr => ∃ (k : Nat), i = .int .i64 k ∧ Aside0 (k ≤ l.length) ∧ Aside0 (Below w.heap.size w wr)) (fun i _ _ => l.length - (intOf i).toNat)
  case atStart => exact ⟨0, rfl, ⟨by omega⟩, B0⟩
  case round =>
    clear B0
    obtain ⟨k, rfl, hk, HB⟩ := hrel
    by_cases hlt : k < l.length
    · have hy := Hz.out k hlt
      obtain ⟨ad, B, d, ead, e0, e1, e2, e3, hd, hB⟩ := at_T58 HC0.out (k : Int) (by omega) (by omega)
      obtain ⟨af, E, g, eaf, f0, f1, f2, f3, hg, hE⟩ := at_T58 HC1.out (k : Int) (by omega) (by omega)
      simp only [Int.toNat_natCast] at e0 e1 e2 e3 f0 f1 f2 f3
      subst ead
      subst eaf
      have hB := Aside0.mk (Kd.C_below hB HB.out)
      have hE := Aside0.mk (Kd.C_below hE HB.out)
      have hd := Aside0.mk hd
      have hg := Aside0.mk hg
      generalize rd_T58 l k = y at *
      replace e0 := Aside0.mk e0
      replace f0 := Aside0.mk f0
      replace e1 := Aside0.mk e1
      replace f1 := Aside0.mk f1
      replace e2 := Aside0.mk e2
      replace f2 := Aside0.mk f2
      replace e3 := Aside0.mk e3
      replace f3 := Aside0.mk f3
      have hlt2 : decide ((k : Int) < (l.length : Int)) = true := decide_eq_true (by omega)
      have hlt3 : decide (k < l.length) = true := decide_eq_true hlt
      go_wp2_with fail
      refine start_ (n := 10) (S := fun w' => w'.cell? (ad.add (k * 4)) = some (.int .i64 y.f0) ∧ w'.cell? ⟨(ad.add (k * 4)).block, (ad.add (k * 4)).off + 1, none⟩ = some (.int .i64 y.f1) ∧ w'.cell? ⟨(ad.add (k * 4)).block, (ad.add (k * 4)).off + 2, none⟩ = some (.string y.f2) ∧ w'.cell? ⟨(ad.add (k * 4)).block, (ad.add (k * 4)).off + 3, none⟩ = some (.slice B y.f3.length d) ∧ w'.cell? (af.add (k * 4)) = some (.int .i64 y.f0) ∧ w'.cell? ⟨(af.add (k * 4)).block, (af.add (k * 4)).off + 1, none⟩ = some (.int .i64 y.f1) ∧ w'.cell? ⟨(af.add (k * 4)).block, (af.add (k * 4)).off + 2, none⟩ = some (.string y.f2) ∧ w'.cell? ⟨(af.add (k * 4)).block, (af.add (k * 4)).off + 3, none⟩ = some (.slice E y.f3.length g)) (ds := []) #[false, false, false, false, false, false, false, false, false, false] (by kernel_rfl) rfl rfl ⟨ck HB.out.drew e0.out, ck HB.out.drew e1.out, ck HB.out.drew e2.out, ck HB.out.drew e3.out, ck HB.out.drew f0.out, ck HB.out.drew f1.out, ck HB.out.drew f2.out, ck HB.out.drew f3.out⟩ (fun hHeld => ?_)
      have HB2 := HB.out.drew
      have hB2 := Kd.C_below hB.out (below_drew (Below.refl _ _))
      have hE2 := Kd.C_below hE.out (below_drew (Below.refl _ _))
      generalize wr.drew = v0 at *
      refine pure_ (i := 0) (N := some 16) (v := ?_) (a' := ?_) #[true, false, false, false, false, false, false, false, false, false] rfl rfl (by kernel_rfl) (fun _ _ _ h => h) (Or.inl ⟨by rfl, ?_⟩) ?_ ?_
      rotate_left
      · intro w'
        go_simp
        with_reducible rfl
      rotate_left
      · simp only [Act.put, List.setIfInBounds_toArray, List.set_cons_zero, List.set_cons_succ, i64_w, i32_w]
        rfl
      refine pure_ (i := 1) (N := some 17) (v := ?_) (a' := ?_) #[true, true, false, false, false, false, false, false, false, false] rfl rfl (by kernel_rfl) (fun _ _ _ h => h) (Or.inl ⟨by rfl, ?_⟩) ?_ ?_
      rotate_left
      · intro w'
        go_simp
        with_reducible rfl
      rotate_left
      · simp only [Act.put, List.setIfInBounds_toArray, List.set_cons_zero, List.set_cons_succ, i64_w, i32_w]
        rfl
      refine pure_ (i := 2) (N := some 18) (v := ?_) (a' := ?_) #[true, true, true, false, false, false, false, false, false, false] rfl rfl (by kernel_rfl) (fun _ _ _ h => h) (Or.inl ⟨by rfl, ?_⟩) ?_ ?_
      rotate_left
      · intro w'
        go_simp
        with_reducible rfl
      rotate_left
      · simp only [Act.put, List.setIfInBounds_toArray, List.set_cons_zero, List.set_cons_succ, i64_w, i32_w]
        rfl
      refine take_ (i := 3) (N := some 19) (v := ?_) (a' := ?_) #[true, true, true, true, false, false, false, false, false, false] rfl rfl (by kernel_rfl) (fun _ _ _ h => h) (Or.inl ⟨by rfl, ?_⟩) hHeld ?_ ?_
      rotate_left
      · rintro w' ⟨s0, s1, s2, s3, s4, s5, s6, s7⟩
        go_simp
        with_reducible rfl
      rotate_left
      · simp only [Act.put, List.setIfInBounds_toArray, List.set_cons_zero, List.set_cons_succ, i64_w, i32_w]
        rfl
      refine pure_ (i := 4) (N := some 20) (v := ?_) (a' := ?_) #[true, true, true, true, true, false, false, false, false, false] rfl rfl (by kernel_rfl) (fun _ _ _ h => h) (Or.inl ⟨by rfl, ?_⟩) ?_ ?_
      rotate_left
      · intro w'
        go_simp
        with_reducible rfl
      rotate_left
      · simp only [Act.put, List.setIfInBounds_toArray, List.set_cons_zero, List.set_cons_succ, i64_w, i32_w]
        rfl
      refine pure_ (i := 5) (N := some 21) (v := ?_) (a' := ?_) #[true, true, true, true, true, true, false, false, false, false] rfl rfl (by kernel_rfl) (fun _ _ _ h => h) (Or.inl ⟨by rfl, ?_⟩) ?_ ?_
      rotate_left
      · intro w'
        go_simp
        with_reducible rfl
      rotate_left
      · simp only [Act.put, List.setIfInBounds_toArray, List.set_cons_zero, List.set_cons_succ, i64_w, i32_w]
        rfl
      refine pure_ (i := 6) (N := some 22) (v := ?_) (a' := ?_) #[true, true, true, true, true, true, true, false, false, false] rfl rfl (by kernel_rfl) (fun _ _ _ h => h) (Or.inl ⟨by rfl, ?_⟩) ?_ ?_
      rotate_left
      · intro w'
        go_simp
        with_reducible rfl
      rotate_left
      · simp only [Act.put, List.setIfInBounds_toArray, List.set_cons_zero, List.set_cons_succ, i64_w, i32_w]
        rfl
      refine take_ (i := 7) (N := some 23) (v := ?_) (a' := ?_) #[true, true, true, true, true, true, true, true, false, false] rfl rfl (by kernel_rfl) (fun _ _ _ h => h) (Or.inl ⟨by rfl, ?_⟩) hHeld ?_ ?_
      rotate_left
      · rintro w' ⟨s0, s1, s2, s3, s4, s5, s6, s7⟩
        go_simp
        with_reducible rfl
      rotate_left
      · simp only [Act.put, List.setIfInBounds_toArray, List.set_cons_zero, List.set_cons_succ, i64_w, i32_w]
        rfl
      refine one_ (i := 8) (N := some 24) #[true, true, true, true, true, true, true, true, true, false] rfl rfl (by kernel_rfl) (by decide) (fun K hK => ?_)
      refine goes_ Try.func35 (by kernel_rfl) rfl #[.agg #[.int .i64 y.f0, .int .i64 y.f1, .string y.f2, .slice B y.f3.length d], .agg #[.int .i64 y.f0, .int .i64 y.f1, .string y.f2, .slice E y.f3.length g]] (by rfl) rfl rfl (by (try simp only [List.map_toArray, List.map_cons, List.map_nil]); first | done | rfl) ?_
      refine (same_calls y hy B E d g _ hB2 hd.out hE2 hg.out).mono ?_
      rintro e v1 ⟨rfl, hb⟩
      refine ⟨_, rfl, ?_⟩
      replace HB2 := below_step HB2 hb
      clear hb
      refine hK.out _ _ ⟨ck HB2 e0.out, ck HB2 e1.out, ck HB2 e2.out, ck HB2 e3.out, ck HB2 f0.out, ck HB2 f1.out, ck HB2 f2.out, ck HB2 f3.out⟩ (fun hHeld => ?_)
      clear hK K
      refine norm_ (a' := ?_) ?_ ?_
      rotate_left
      · show Act.put _ (some 24) _ = _
        simp only [Act.put, List.setIfInBounds_toArray, List.set_cons_zero, List.set_cons_succ, i64_w, i32_w]
        rfl
      refine pure_ (i := 9) (N := some 25) (v := ?_) (a' := ?_) #[true, true, true, true, true, true, true, true, true, true] rfl rfl (by kernel_rfl) (fun _ _ _ h => h) (Or.inl ⟨by rfl, ?_⟩) ?_ ?_
      rotate_left
      · intro w'
        go_simp
        with_reducible rfl
      rotate_left
      · simp only [Act.put, List.setIfInBounds_toArray, List.set_cons_zero, List.set_cons_succ, i64_w, i32_w]
        rfl
      refine done_ (by kernel_rfl) ?_
      replace HB2 := Aside0.mk HB2
      clear hHeld
      go_wp2_with fail
      go_roundw
      case rel => exact ⟨k + 1, by go_num, ⟨by omega⟩, HB2⟩
      case measure => simp [intOf]; omega
    · have hlt2 : decide ((k : Int) < (l.length : Int)) = false := decide_eq_false (by omega)
      have hlt3 : decide (k < l.length) = false := decide_eq_false hlt
      obtain rfl : k = l.length := by have := hk.out; omega
      go_wp2_with fail
      go_ret
      exact ⟨rfl, HB.out⟩
end Go.Proofs.Ythdnaliahdohhaa.H
