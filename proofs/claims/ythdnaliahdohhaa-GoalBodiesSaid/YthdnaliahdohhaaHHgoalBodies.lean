/- GoalBodies: the walk, joined. -/
import Derived.Test.YthdnaliahdohhaaHHgoalBodies2
namespace Go.Proofs.Ythdnaliahdohhaa.H
open Go.RowKit Go.Proofs.YthdnaliahdohhaaW.PrintWords
theorem goalBodies_walk (l m : List S146) (A B : Option Addr) (c d : Nat) (w : World) (hC : Kd.C k146 w A l.length l) (hc : l.length ≤ c) (hD : Kd.C k146 w B m.length m) (hd : m.length ≤ d) :
    Calls Try.prog 9 #[.slice A l.length c, .slice B m.length d] w fun e w' => e = .returned (.bool true) ∧ Below w.heap.size w w' := by
  by_cases hg : 60 < l.length
  · exact gb_1 l m A B c d w hC hc hD hd hg
  by_cases hg2 : 60 < m.length
  · exact gb_2 l m A B c d w hC hc hD hd hg hg2
  obtain ⟨t, ht, hs, hgood⟩ := good_ok l (by omega)
  obtain ⟨u, hu, hsu, hgoodu⟩ := good_ok m (by omega)
  rcases bodies_law ht hu hs hsu with ⟨h1, h3⟩ | ⟨x, y, h1, h2, h3⟩
  · rcases h1 with h1 | ⟨h1, h2⟩
    · exact gb_3 l m A B c d w hC hc hD hd hg hg2 t u hgood hgoodu hs hsu (bodyR t).2 (bodyR u).2 (bodyR (tAnd2 t u)).2 (bodyR u).1 (by rw [← h1]) rfl (by rw [← h3])
    · exact gb_4 l m A B c d w hC hc hD hd hg hg2 t u hgood hgoodu hs hsu (bodyR t).2 (bodyR u).2 (bodyR (tAnd2 t u)).2 (by rw [← h1]) (by rw [← h2]) (by rw [← h3])
  · obtain ⟨x1, x2, x3, x4, x5, x6⟩ := bodyR_again h1
    obtain ⟨y1, y2, y3, y4, y5, y6⟩ := bodyR_again h2
    have fx := flatN_len 1000000 x
    have fy := flatN_len 1000000 y
    have e1 : flatN 999999 x = flatN 1000000 x := flat_fuel _ _ _ (by omega) (by omega)
    have e2 : flatN 999999 y = flatN 1000000 y := flat_fuel _ _ _ (by omega) (by omega)
    refine gb_5 l m A B c d w hC hc hD hd hg hg2 t u hgood hgoodu hs hsu x y h1 h2 h3 x1 (by omega) (by omega) (flatN 1000000 x) (flatN 1000000 y) rfl rfl (by rw [flat_and 999999, e1, e2]) ?_ (by rw [List.length_append]; omega) ?_
    · intro z hz
      rcases List.mem_append.1 hz with hz | hz
      · exact flat_kinds 1000000 x (by omega) x2 (bodyR_0 x1).2.1 z hz
      · exact flat_kinds 1000000 y (by omega) y2 (bodyR_0 y1).2.1 z hz
    · intro z hz
      rcases List.mem_append.1 hz with hz | hz
      · have := flat_szs 1000000 x z hz; omega
      · have := flat_szs 1000000 y z hz; omega
end Go.Proofs.Ythdnaliahdohhaa.H
