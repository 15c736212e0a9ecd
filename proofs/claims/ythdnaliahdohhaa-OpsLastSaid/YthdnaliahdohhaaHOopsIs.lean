/- The table of operators (ops), VI: Is, Made. -/
import Derived.Test.YthdnaliahdohhaaHOopsNew
namespace Go.Proofs.Ythdnaliahdohhaa.O
open Go.RowKit Go.Proofs.YthdnaliahdohhaaW.PrintWords Go.Proofs.YthdnaliahdohhaaW.PrintLast Go.Proofs.YthdnaliahdohhaaW.PrintMore Go.Proofs.Ythdnaliahdohhaa.Map
attribute [local go_sem] max2_int min2_int max_two min_two max_three min_three max_four min_four
set_option linter.unusedVariables false
set_option linter.unusedSimpArgs false
set_option maxHeartbeats 8000000 in
set_option maxRecDepth 100000 in
theorem is1_calls {b m : Nat} {L : OL} (s : ByteArray) (n : Int) (c d : Nat) (w : World) (h : Tab w b m L) (hc : w.heap[c]? = some (.cells #[.pointer (some ⟨b, 0, none⟩)] 45 (0,0))) (hd : w.heap[d]? = some (.cells #[.string s] 9 (0,0))) :
    Calls Try.prog 95 #[.int .i64 n, .pointer (some ⟨c, 0, none⟩), .pointer (some ⟨d, 0, none⟩)] w fun e w' => e = .returned (.bool (lookK (s, n) L).isSome) ∧ Below w.heap.size w w' := by
  have HM := Aside0.mk h
  have cc : w.cell? ⟨c, 0, none⟩ = some (.pointer (some ⟨b, 0, none⟩)) := (blk_cell hc 0).trans rfl
  have cd : w.cell? ⟨d, 0, none⟩ = some (.string s) := (blk_cell hd 0).trans rfl
  clear h hc hd
  go_enter Try.func95, Try.ntmps95
  go_wp2_with (go_at_call 71; refine (has_calls s n _ HM.out).mono ?_; rintro e w2 ⟨rfl, hb⟩)
  go_ret
  exact ⟨rfl, hb⟩
structure IsAt (w w' : World) (b m g c d : Nat) (L : OL) (s : ByteArray) : Prop where
  tab : Tab w' b m L
  row : w'.heap[g]? = some (.cells #[.int .i64 0, .int .i64 1, .int .i64 2] 3 (0,0))
  t : w'.heap[c]? = some (.cells #[.pointer (some ⟨b, 0, none⟩)] 45 (0,0))
  n : w'.heap[d]? = some (.cells #[.string s] 9 (0,0))
  below : Below w.heap.size w w'
theorem IsAt.step {w w1 w2 : World} {b m g c d : Nat} {L : OL} {s : ByteArray} (h : IsAt w w1 b m g c d L s) (hb : Below w1.heap.size w1 w2) : IsAt w w2 b m g c d L s :=
  ⟨h.tab.kept hb, blk_below h.row hb, blk_below h.t hb, blk_below h.n hb, below_step h.below hb⟩
theorem IsAt.cell {w w1 : World} {b m g c d : Nat} {L : OL} {s : ByteArray} (h : IsAt w w1 b m g c d L s) {k : Nat} (hk : k < 3) : w1.cell? ⟨g, k, none⟩ = some (.int .i64 k) := by
  refine (blk_cell h.row k).trans ?_
  obtain rfl | rfl | rfl : k = 0 ∨ k = 1 ∨ k = 2 := by omega
  all_goals rfl
def isI (L : OL) (s : ByteArray) : Int := if (lookK (s, 0) L).isSome then 0 else if (lookK (s, 1) L).isSome then 1 else if (lookK (s, 2) L).isSome then 2 else -1
def isV (L : OL) (s : ByteArray) : Bool := decide (0 ≤ isI L s)
set_option maxHeartbeats 8000000 in
set_option maxRecDepth 100000 in
theorem indexF_calls {b m g c d : Nat} {L : OL} (s : ByteArray) (w : World) (h : IsAt w w b m g c d L s) :
    Calls Try.prog 111 #[.slice (some ⟨g, 0, none⟩) 3 3, .func (.func 95) #[] #[.pointer (some ⟨c, 0, none⟩), .pointer (some ⟨d, 0, none⟩)]] w fun e w' => e = .returned (.int .i64 (isI L s)) ∧ Below w.heap.size w w' := by
  have HI := Aside0.mk h
  clear h
  go_enter Try.func111, Try.ntmps111
  go_wp2_with fail
  go_loopw [8] (fun i wr => ∃ k : Nat, i = .int .i64 k ∧ Aside0 (k ≤ 3) ∧ Aside0 (∀ j : Nat, j < k → (lookK (s, (j : Int)) L).isSome = false) ∧ Aside0 (IsAt w wr b m g c d L s)) (fun i _ => 3 - (intOf i).toNat)
  case atStart => exact ⟨0, rfl, ⟨by omega⟩, ⟨by omega⟩, ⟨HI.out⟩⟩
  case round =>
    obtain ⟨k, rfl, hk, hj, hI⟩ := hrel
    by_cases hlt : k < 3
    · have hlt2 : decide ((k : Int) < 3) = true := decide_eq_true (by omega)
      have hc := hI.out.cell hlt
      by_cases hp : (lookK (s, (k : Int)) L).isSome = true
      · have HV : Aside0 (isI L s = k) := by
          refine ⟨?_⟩
          have hj := hj.out
          unfold isI
          obtain rfl | rfl | rfl : k = 0 ∨ k = 1 ∨ k = 2 := by omega
          · rw [if_pos (by simpa using hp)]; rfl
          · rw [if_neg (by simpa using hj 0 (by omega)), if_pos (by simpa using hp)]; rfl
          · rw [if_neg (by simpa using hj 0 (by omega)), if_neg (by simpa using hj 1 (by omega)), if_pos (by simpa using hp)]; rfl
        go_wp2_with (go_at_call 95; refine (is1_calls s k c d _ hI.out.tab hI.out.t hI.out.n).mono ?_; rintro e w2 ⟨rfl, hb⟩)
        go_ret
        exact ⟨by rw [HV.out]; rfl, below_step hI.out.below hb⟩
      · have hp' : (lookK (s, (k : Int)) L).isSome = false := by simpa using hp
        clear hp
        have HJ : Aside0 (∀ j : Nat, j < k + 1 → (lookK (s, (j : Int)) L).isSome = false) := by
          refine ⟨fun j hj2 => ?_⟩
          rcases Nat.lt_or_ge j k with h | h
          · exact hj.out j h
          · obtain rfl : j = k := by omega
            exact hp'
        go_wp2_with (go_at_call 95; refine (is1_calls s k c d _ hI.out.tab hI.out.t hI.out.n).mono ?_; rintro e w2 ⟨rfl, hb⟩)
        go_roundw
        case rel => exact ⟨k + 1, by go_num, ⟨by omega⟩, HJ, ⟨hI.out.step hb⟩⟩
        case measure => simp [intOf]; omega
    · have hlt2 : decide ((k : Int) < 3) = false := decide_eq_false (by omega)
      have HV : Aside0 (isI L s = -1) := by
        refine ⟨?_⟩
        have hj := hj.out
        have hk := hk.out
        unfold isI
        rw [if_neg (by simpa using hj 0 (by omega)), if_neg (by simpa using hj 1 (by omega)), if_neg (by simpa using hj 2 (by omega))]
      go_wp2_with fail
      go_ret
      exact ⟨by rw [HV.out]; rfl, hI.out.below⟩
set_option maxHeartbeats 8000000 in
set_option maxRecDepth 100000 in
theorem containsF_calls {b m g c d : Nat} {L : OL} (s : ByteArray) (w : World) (h : IsAt w w b m g c d L s) :
    Calls Try.prog 96 #[.slice (some ⟨g, 0, none⟩) 3 3, .func (.func 95) #[] #[.pointer (some ⟨c, 0, none⟩), .pointer (some ⟨d, 0, none⟩)]] w fun e w' => e = .returned (.bool (isV L s)) ∧ Below w.heap.size w w' := by
  have HI := Aside0.mk h
  clear h
  go_enter Try.func96, Try.ntmps96
  go_wp2_with (go_at_call 111; refine (indexF_calls s _ HI.out).mono ?_; rintro e w2 ⟨rfl, hb⟩)
  go_ret
  exact ⟨rfl, hb⟩
theorem isAt_of {w w1 w2 w3 : World} {b m : Nat} {L : OL} {s : ByteArray} (h : Tab w b m L) (h1 : w1 = w.alloc (.cells #[.pointer (some ⟨b, 0, none⟩)] 45)) (h2 : w2 = w1.alloc (.cells #[.string s] 9)) (h3 : w3 = w2.alloc (.cells #[.int .i64 0, .int .i64 1, .int .i64 2] 3)) :
    IsAt w3 w3 b m (w.heap.size + 2) w.heap.size (w.heap.size + 1) L s := by
  have b1 : Below w.heap.size w w1 := by rw [h1]; exact below_alloc (Below.refl _ _) _
  have b2 : Below w1.heap.size w1 w2 := by rw [h2]; exact below_alloc (Below.refl _ _) _
  have b3 : Below w2.heap.size w2 w3 := by rw [h3]; exact below_alloc (Below.refl _ _) _
  have s1 : w1.heap.size = w.heap.size + 1 := by rw [h1]; simp
  have s2 : w2.heap.size = w.heap.size + 2 := by rw [h2]; simp [s1]
  have k1 : w1.heap[w.heap.size]? = some (.cells #[.pointer (some ⟨b, 0, none⟩)] 45 (0,0)) := by rw [h1]; exact heap_alloc_new _ _
  have k2 : w2.heap[w.heap.size + 1]? = some (.cells #[.string s] 9 (0,0)) := by rw [h2, ← s1]; exact heap_alloc_new _ _
  have k3 : w3.heap[w.heap.size + 2]? = some (.cells #[.int .i64 0, .int .i64 1, .int .i64 2] 3 (0,0)) := by rw [h3, ← s2]; exact heap_alloc_new _ _
  exact ⟨((h.kept b1).kept b2).kept b3, k3, blk_below (blk_below k1 b2) b3, blk_below k2 b3, Below.refl _ _⟩
set_option maxHeartbeats 8000000 in
set_option maxRecDepth 100000 in
theorem is_calls {b m : Nat} {L : OL} (s : ByteArray) (w : World) (h : Tab w b m L) :
    Calls Try.prog 67 #[.pointer (some ⟨b, 0, none⟩), .string s] w fun e w' => e = .returned (.bool (isV L s)) ∧ Below w.heap.size w w' := by
  have HI := Aside0.mk (isAt_of h rfl (s := s) rfl rfl)
  have hmf : ∀ (fn : Fn) (first cap : Array Value) (w : World), (Instr.makeFunc fn first cap).run Try.prog w = .ok (.func fn first cap) w := fun _ _ _ _ => rfl
  clear h
  go_enter Try.func67, Try.ntmps67
  go_wp2_with (go_at_call 96; refine (containsF_calls s _ HI.out).mono ?_; rintro e w2 ⟨rfl, hb⟩)
  go_ret
  exact ⟨rfl, below_step (below_alloc (below_alloc (below_alloc (Below.refl _ _) _) _) _) hb⟩
end Go.Proofs.Ythdnaliahdohhaa.O
