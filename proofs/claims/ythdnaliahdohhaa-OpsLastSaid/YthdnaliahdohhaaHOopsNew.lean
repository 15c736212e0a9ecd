/- The table of operators (ops), V: New. -/
import Derived.Test.YthdnaliahdohhaaHOopsPut
namespace Go.Proofs.Ythdnaliahdohhaa.O
open Go.RowKit Go.Proofs.YthdnaliahdohhaaW.PrintWords Go.Proofs.YthdnaliahdohhaaW.PrintLast Go.Proofs.YthdnaliahdohhaaW.PrintMore Go.Proofs.Ythdnaliahdohhaa.Map
attribute [local go_sem] max2_int min2_int max_two min_two max_three min_three max_four min_four
set_option linter.unusedVariables false
set_option linter.unusedSimpArgs false
/-- what there is at first -/
def first0 : List (Int × Int × List ByteArray) := [(1200, 1, [⟨#[58, 45]⟩, ⟨#[45, 45, 62]⟩]),
  (1200, 4, [⟨#[58, 45]⟩, ⟨#[63, 45]⟩]),
  (1150, 4, [⟨#[100, 121, 110, 97, 109, 105, 99]⟩]),
  (1100, 2, [⟨#[59]⟩]),
  (1050, 2, [⟨#[45, 62]⟩]),
  (1000, 2, [⟨#[44]⟩]),
  (900, 5, [⟨#[92, 43]⟩]),
  (700, 1, [⟨#[61]⟩, ⟨#[92, 61]⟩, ⟨#[61, 61]⟩, ⟨#[92, 61, 61]⟩, ⟨#[64, 60]⟩, ⟨#[64, 62]⟩, ⟨#[64, 61, 60]⟩, ⟨#[64, 62, 61]⟩, ⟨#[61, 46, 46]⟩, ⟨#[105, 115]⟩, ⟨#[61, 58, 61]⟩, ⟨#[61, 92, 61]⟩, ⟨#[60]⟩, ⟨#[62]⟩, ⟨#[61, 60]⟩, ⟨#[62, 61]⟩]),
  (500, 3, [⟨#[43]⟩, ⟨#[45]⟩, ⟨#[47, 92]⟩, ⟨#[92, 47]⟩, ⟨#[120, 111, 114]⟩]),
  (400, 3, [⟨#[42]⟩, ⟨#[47]⟩, ⟨#[47, 47]⟩, ⟨#[114, 101, 109]⟩, ⟨#[109, 111, 100]⟩, ⟨#[100, 105, 118]⟩, ⟨#[60, 60]⟩, ⟨#[62, 62]⟩]),
  (200, 1, [⟨#[42, 42]⟩]),
  (200, 2, [⟨#[94]⟩]),
  (200, 5, [⟨#[45]⟩, ⟨#[43]⟩, ⟨#[92]⟩])]
def putL (L : OL) (l : List (Int × Int × List ByteArray)) : OL := l.foldl (fun L x => putN L x.1 x.2.1 x.2.2) L
def newL : OL := putL [] first0
/-- a table of the call's own -/
structure Mine (w w' : World) (b m : Nat) (L : OL) : Prop where
  tab : Tab w' b m L
  lo : w.heap.size ≤ b
  lom : w.heap.size ≤ m
  below : Below w.heap.size w w'
structure St (w w' : World) (b c m : Nat) (L : OL) : Prop where
  mine : Mine w w' b m L
  var : w'.heap[c]? = some (.cells #[.pointer (some ⟨b, 0, none⟩)] 45 (0,0))
theorem Mine.grown {w w1 w2 : World} {b m : Nat} {L L' : OL} (h : Mine w w1 b m L) (hT : Tab w2 b m L') (hg : w1.grownBy w2 (some m)) : Mine w w2 b m L' :=
  ⟨hT, h.lo, h.lom, h.below.grown hg h.below.size (fun k hk => by injection hk with hk; have := h.lom; omega)⟩
theorem put_step {w w1 : World} {b c m : Nat} {L : OL} (h : St w w1 b c m L) (pri typ : Int) (l : List ByteArray) (n : Nat) (hn : l.length = n) (cs : Array Value) (hcs : (l.map Value.string).toArray = cs) (g d : Nat) (hg : w1.heap.size = g) (hd : c = d) (ht : 1 ≤ typ ∧ typ ≤ 7) (hl : n ≤ 1000) :
    Calls Try.prog 94 #[.int .i64 pri, .int .i64 typ, .slice (some ⟨g, 0, none⟩) n n, .pointer (some ⟨d, 0, none⟩)] (w1.alloc (.cells cs 9)) fun e w' => e = .returned (.tuple #[]) ∧ St w w' b c m (putN L pri typ l) := by
  subst hn
  subst hcs
  subst hg
  subst hd
  have hb : Below w1.heap.size w1 (w1.alloc (.cells (l.map Value.string).toArray 9)) := below_alloc (Below.refl _ _) _
  have hT := h.mine.tab.kept hb
  have hc := (hb.block c (blk_lt h.var)).trans h.var
  refine (put_calls pri typ l w1.heap.size c b m L _ ht hl (heap_alloc_new w1 _) hc hT).mono ?_
  rintro e w2 ⟨rfl, hT2, hg⟩
  have hg2 : w1.grownBy w2 (some m) := (grown_of_below hb _).trans hg
  exact ⟨rfl, h.mine.grown hT2 hg2, (hg2.block c (blk_lt h.var) (by intro e; injection e with e; exact h.mine.tab.ne h.var e)).trans h.var⟩
set_option maxHeartbeats 8000000 in
set_option maxRecDepth 100000 in
theorem new_calls (w : World) : Calls Try.prog 66 #[] w fun e w' => ∃ (b m : Nat), e = .returned (.pointer (some ⟨b, 0, none⟩)) ∧ Mine w w' b m newL := by
  have hmf : ∀ (fn : Fn) (first cap : Array Value) (w : World), (Instr.makeFunc fn first cap).run Try.prog w = .ok (.func fn first cap) w := fun _ _ _ _ => rfl
  have hmm := @run_makeMap Try.prog
  go_enter Try.func66, Try.ntmps66
  go_wp2_with fail
  have S0 : St w (((w.alloc (.map #[] 0)).alloc (.cells #[.map (some w.heap.size)] 122)).alloc (.cells #[.pointer (some ⟨w.heap.size + 1, 0, none⟩)] 45)) (w.heap.size + 1) (w.heap.size + 2) w.heap.size [] := by
    have M0 : Is encSI encD (w.alloc (.map #[] 0)) w.heap.size [] := Is.made _ _ _
    have b1 : Below (w.alloc (.map #[] 0)).heap.size (w.alloc (.map #[] 0)) ((w.alloc (.map #[] 0)).alloc (.cells #[.map (some w.heap.size)] 122)) := below_alloc (Below.refl _ _) _
    have b2 : Below ((w.alloc (.map #[] 0)).alloc (.cells #[.map (some w.heap.size)] 122)).heap.size ((w.alloc (.map #[] 0)).alloc (.cells #[.map (some w.heap.size)] 122)) (((w.alloc (.map #[] 0)).alloc (.cells #[.map (some w.heap.size)] 122)).alloc (.cells #[.pointer (some ⟨w.heap.size + 1, 0, none⟩)] 45)) := below_alloc (Below.refl _ _) _
    have T1 : Tab ((w.alloc (.map #[] 0)).alloc (.cells #[.map (some w.heap.size)] 122)) (w.heap.size + 1) w.heap.size [] := by
      refine ⟨?_, M0.kept (b1.block _ M0.lt)⟩
      have := heap_alloc_new (w.alloc (.map #[] 0)) (.cells #[.map (some w.heap.size)] 122)
      simpa using this
    refine ⟨⟨T1.kept b2, by omega, by omega, ?_⟩, ?_⟩
    · exact below_alloc (below_alloc (below_alloc (Below.refl _ _) _) _) _
    · have := heap_alloc_new ((w.alloc (.map #[] 0)).alloc (.cells #[.map (some w.heap.size)] 122)) (.cells #[.pointer (some ⟨w.heap.size + 1, 0, none⟩)] 45)
      simpa using this
  clear hmm hmf
  with_reducible refine (put_step S0 1200 1 [⟨#[58, 45]⟩, ⟨#[45, 45, 62]⟩] 2 rfl _ (by with_unfolding_all exact rfl) (w.heap.size + 1 + 1 + 1) (w.heap.size + 1 + 1) (by simp) rfl (by decide) (by decide)).mono ?_
  rintro e w1 ⟨rfl, S1⟩
  go_wp2_with fail
  with_reducible refine (put_step S1 1200 4 [⟨#[58, 45]⟩, ⟨#[63, 45]⟩] 2 rfl _ (by with_unfolding_all exact rfl) _ _ rfl rfl (by decide) (by decide)).mono ?_
  rintro e w2 ⟨rfl, S2⟩
  go_wp2_with fail
  with_reducible refine (put_step S2 1150 4 [⟨#[100, 121, 110, 97, 109, 105, 99]⟩] 1 rfl _ (by with_unfolding_all exact rfl) _ _ rfl rfl (by decide) (by decide)).mono ?_
  rintro e w3 ⟨rfl, S3⟩
  go_wp2_with fail
  with_reducible refine (put_step S3 1100 2 [⟨#[59]⟩] 1 rfl _ (by with_unfolding_all exact rfl) _ _ rfl rfl (by decide) (by decide)).mono ?_
  rintro e w4 ⟨rfl, S4⟩
  go_wp2_with fail
  with_reducible refine (put_step S4 1050 2 [⟨#[45, 62]⟩] 1 rfl _ (by with_unfolding_all exact rfl) _ _ rfl rfl (by decide) (by decide)).mono ?_
  rintro e w5 ⟨rfl, S5⟩
  go_wp2_with fail
  with_reducible refine (put_step S5 1000 2 [⟨#[44]⟩] 1 rfl _ (by with_unfolding_all exact rfl) _ _ rfl rfl (by decide) (by decide)).mono ?_
  rintro e w6 ⟨rfl, S6⟩
  go_wp2_with fail
  with_reducible refine (put_step S6 900 5 [⟨#[92, 43]⟩] 1 rfl _ (by with_unfolding_all exact rfl) _ _ rfl rfl (by decide) (by decide)).mono ?_
  rintro e w7 ⟨rfl, S7⟩
  go_wp2_with fail
  with_reducible refine (put_step S7 700 1 [⟨#[61]⟩, ⟨#[92, 61]⟩, ⟨#[61, 61]⟩, ⟨#[92, 61, 61]⟩, ⟨#[64, 60]⟩, ⟨#[64, 62]⟩, ⟨#[64, 61, 60]⟩, ⟨#[64, 62, 61]⟩, ⟨#[61, 46, 46]⟩, ⟨#[105, 115]⟩, ⟨#[61, 58, 61]⟩, ⟨#[61, 92, 61]⟩, ⟨#[60]⟩, ⟨#[62]⟩, ⟨#[61, 60]⟩, ⟨#[62, 61]⟩] 16 rfl _ (by with_unfolding_all exact rfl) _ _ rfl rfl (by decide) (by decide)).mono ?_
  rintro e w8 ⟨rfl, S8⟩
  go_wp2_with fail
  with_reducible refine (put_step S8 500 3 [⟨#[43]⟩, ⟨#[45]⟩, ⟨#[47, 92]⟩, ⟨#[92, 47]⟩, ⟨#[120, 111, 114]⟩] 5 rfl _ (by with_unfolding_all exact rfl) _ _ rfl rfl (by decide) (by decide)).mono ?_
  rintro e w9 ⟨rfl, S9⟩
  go_wp2_with fail
  with_reducible refine (put_step S9 400 3 [⟨#[42]⟩, ⟨#[47]⟩, ⟨#[47, 47]⟩, ⟨#[114, 101, 109]⟩, ⟨#[109, 111, 100]⟩, ⟨#[100, 105, 118]⟩, ⟨#[60, 60]⟩, ⟨#[62, 62]⟩] 8 rfl _ (by with_unfolding_all exact rfl) _ _ rfl rfl (by decide) (by decide)).mono ?_
  rintro e w10 ⟨rfl, S10⟩
  go_wp2_with fail
  with_reducible refine (put_step S10 200 1 [⟨#[42, 42]⟩] 1 rfl _ (by with_unfolding_all exact rfl) _ _ rfl rfl (by decide) (by decide)).mono ?_
  rintro e w11 ⟨rfl, S11⟩
  go_wp2_with fail
  with_reducible refine (put_step S11 200 2 [⟨#[94]⟩] 1 rfl _ (by with_unfolding_all exact rfl) _ _ rfl rfl (by decide) (by decide)).mono ?_
  rintro e w12 ⟨rfl, S12⟩
  go_wp2_with fail
  with_reducible refine (put_step S12 200 5 [⟨#[45]⟩, ⟨#[43]⟩, ⟨#[92]⟩] 3 rfl _ (by with_unfolding_all exact rfl) _ _ rfl rfl (by decide) (by decide)).mono ?_
  rintro e w13 ⟨rfl, S13⟩
  have cv : w13.cell? ⟨w.heap.size + 1 + 1, 0, none⟩ = some (.pointer (some ⟨w.heap.size + 1, 0, none⟩)) := (blk_cell S13.var 0).trans rfl
  go_wp2_with fail
  go_ret
  exact ⟨_, _, rfl, S13.mine⟩
end Go.Proofs.Ythdnaliahdohhaa.O
