/- Rows of terms: an element, literals of one or two terms. -/
import Derived.Test.YthdnaliahdohhaaHHown
namespace Go.Proofs.Ythdnaliahdohhaa.H
open Go.RowKit Go.Proofs.YthdnaliahdohhaaW.PrintWords Go.Proofs.YthdnaliahdohhaaW.PrintLast Go.Proofs.YthdnaliahdohhaaW.PrintMore Go.Proofs.Ythdnaliahdohhaa.Map
attribute [local go_sem] max2_int min2_int max_two min_two max_three min_three max_four min_four
set_option linter.unusedVariables false
set_option linter.unusedSimpArgs false
theorem at_F {w : World} {ok : Nat → Prop} {A : Option Addr} {n : Nat} {xs : List S58} (h : Kd.F k58 w ok A n xs) (i : Int) (h0 : 0 ≤ i) (h1 : i < n) : ∃ ad A3 c3, A = some ad ∧ w.cell? (ad.add (i.toNat * 4)) = some (.int .i64 (rd_T58 xs i).f0) ∧ w.cell? ⟨(ad.add (i.toNat * 4)).block, (ad.add (i.toNat * 4)).off + 1, none⟩ = some (.int .i64 (rd_T58 xs i).f1) ∧ w.cell? ⟨(ad.add (i.toNat * 4)).block, (ad.add (i.toNat * 4)).off + 2, none⟩ = some (.string (rd_T58 xs i).f2) ∧ w.cell? ⟨(ad.add (i.toNat * 4)).block, (ad.add (i.toNat * 4)).off + 3, none⟩ = some (.slice A3 (rd_T58 xs i).f3.length c3) ∧ (rd_T58 xs i).f3.length ≤ c3 ∧ Kd.F k58 w ok A3 (rd_T58 xs i).f3.length (rd_T58 xs i).f3 := by
  obtain ⟨ad, c, e, _, hK, hc0, _⟩ := Kd.F_get h z58 i h0 h1
  have hc : ∀ j u, c[j]? = some u → w.cell? (ad.add (i.toNat * 4 + j)) = some u := hc0
  obtain ⟨A3, c3, rfl, l3, g3⟩ := k58_openF hK
  exact ⟨ad, A3, c3, e, hc 0 _ rfl, by rw [← add_field _ _ 1 (by omega)]; exact hc 1 _ rfl, by rw [← add_field _ _ 2 (by omega)]; exact hc 2 _ rfl, by rw [← add_field _ _ 3 (by omega)]; exact hc 3 _ rfl, l3, g3⟩
theorem lit1 {w : World} {ok : Nat → Prop} {g : Nat} {x : S58} {A : Option Addr} {c : Nat} (hg : w.heap[g]? = some (.cells #[.int .i64 x.f0, .int .i64 x.f1, .string x.f2, .slice A x.f3.length c] 58 (0, 0))) (hc : x.f3.length ≤ c) (hF : Kd.F k58 w ok A x.f3.length x.f3) :
    Kd.F k58 w (fun k => ok k ∨ k = g) (some ⟨g, 0, none⟩) 1 [x] := by
  intro W' hW
  have hg' := (hW g (Or.inr rfl) (blk_lt hg)).trans hg
  have hx := hF W' (fun k hk hlt => hW k (Or.inl hk) hlt)
  refine ⟨rfl, by decide, fun _ => ⟨_, rfl, fun j p hj => ?_⟩⟩
  have hj2 : j = 0 := by have := (List.getElem?_eq_some_iff.1 hj).1; simp at this; omega
  subst hj2
  simp at hj
  subst hj
  refine ⟨_, rfl, k58_mk W' x hc hx, fun i u hu => ?_⟩
  rw [add_at]
  show W'.cell? ⟨g, 0 + (0 * 4 + i), none⟩ = some u
  have hi : i < 4 := by have := (List.getElem?_eq_some_iff.1 hu).1; simpa using this
  simp only [Nat.zero_mul, Nat.zero_add]
  rw [blk_cell hg' i]
  obtain rfl | rfl | rfl | rfl : i = 0 ∨ i = 1 ∨ i = 2 ∨ i = 3 := by omega
  all_goals simpa using hu
theorem lit2 {w : World} {ok : Nat → Prop} {g : Nat} {x y : S58} {A B : Option Addr} {c d : Nat} (hg : w.heap[g]? = some (.cells #[.int .i64 x.f0, .int .i64 x.f1, .string x.f2, .slice A x.f3.length c, .int .i64 y.f0, .int .i64 y.f1, .string y.f2, .slice B y.f3.length d] 58 (0, 0))) (hc : x.f3.length ≤ c) (hF : Kd.F k58 w ok A x.f3.length x.f3) (hd : y.f3.length ≤ d) (hG : Kd.F k58 w ok B y.f3.length y.f3) :
    Kd.F k58 w (fun k => ok k ∨ k = g) (some ⟨g, 0, none⟩) 2 [x, y] := by
  intro W' hW
  have hg' := (hW g (Or.inr rfl) (blk_lt hg)).trans hg
  have hx := hF W' (fun k hk hlt => hW k (Or.inl hk) hlt)
  have hy := hG W' (fun k hk hlt => hW k (Or.inl hk) hlt)
  refine ⟨rfl, by decide, fun _ => ⟨_, rfl, fun j p hj => ?_⟩⟩
  have hj2 : j = 0 ∨ j = 1 := by have := (List.getElem?_eq_some_iff.1 hj).1; simp at this; omega
  rcases hj2 with rfl | rfl
  · simp at hj
    subst hj
    refine ⟨_, rfl, k58_mk W' x hc hx, fun i u hu => ?_⟩
    rw [add_at]
    show W'.cell? ⟨g, 0 + (0 * 4 + i), none⟩ = some u
    have hi : i < 4 := by have := (List.getElem?_eq_some_iff.1 hu).1; simpa using this
    simp only [Nat.zero_mul, Nat.zero_add]
    rw [blk_cell hg' i]
    obtain rfl | rfl | rfl | rfl : i = 0 ∨ i = 1 ∨ i = 2 ∨ i = 3 := by omega
    all_goals simpa using hu
  · simp at hj
    subst hj
    refine ⟨_, rfl, k58_mk W' y hd hy, fun i u hu => ?_⟩
    rw [add_at]
    show W'.cell? ⟨g, 0 + (1 * 4 + i), none⟩ = some u
    have hi : i < 4 := by have := (List.getElem?_eq_some_iff.1 hu).1; simpa using this
    rw [show 0 + (1 * 4 + i) = 4 + i by omega, blk_cell hg' (4 + i)]
    obtain rfl | rfl | rfl | rfl : i = 0 ∨ i = 1 ∨ i = 2 ∨ i = 3 := by omega
    all_goals simpa using hu
end Go.Proofs.Ythdnaliahdohhaa.H
