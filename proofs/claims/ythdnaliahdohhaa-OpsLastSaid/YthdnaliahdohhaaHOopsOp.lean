/- The table of operators (ops), III: Op. -/
import Derived.Test.YthdnaliahdohhaaHOopsTwo
namespace Go.Proofs.Ythdnaliahdohhaa.O
open Go.RowKit Go.Proofs.YthdnaliahdohhaaW.PrintWords Go.Proofs.YthdnaliahdohhaaW.PrintLast Go.Proofs.YthdnaliahdohhaaW.PrintMore Go.Proofs.Ythdnaliahdohhaa.Map
attribute [local go_sem] max2_int min2_int max_two min_two max_three min_three max_four min_four
set_option linter.unusedVariables false
set_option linter.unusedSimpArgs false
def reserved : List ByteArray := [⟨#[44]⟩, ⟨#[124]⟩, ⟨#[91, 93]⟩, ⟨#[123, 125]⟩]
def resv (s : ByteArray) : Bool := decide (s.toList = [44]) || decide (s.toList = [124]) || decide (s.toList = [91, 93]) || decide (s.toList = [123, 125])
theorem resv_f (s : ByteArray) : slices_Contains_string_string.f 6 reserved s = some (resv s) := by
  have h0 : (ByteArray.mk #[44]).toList = [44] := by kernel_rfl
  have h1 : (ByteArray.mk #[124]).toList = [124] := by kernel_rfl
  have h2 : (ByteArray.mk #[91, 93]).toList = [91, 93] := by kernel_rfl
  have h3 : (ByteArray.mk #[123, 125]).toList = [123, 125] := by kernel_rfl
  have w1 : wrap64 1 = 1 := by unfold wrap64; omega
  have w2 : wrap64 2 = 2 := by unfold wrap64; omega
  have w3 : wrap64 3 = 3 := by unfold wrap64; omega
  have w4 : wrap64 4 = 4 := by unfold wrap64; omega
  unfold slices_Contains_string_string.f slices_Index_string_string.f resv
  simp [reserved, slices_Index_string_string.l0, rdOf, h0, h1, h2, h3, w1, w2, w3, w4]
  by_cases a0 : s.toList = [44]
  · simp [a0]
  by_cases a1 : s.toList = [124]
  · simp [a1]
  by_cases a2 : s.toList = [91, 93]
  · simp [a2]
  by_cases a3 : s.toList = [123, 125]
  · simp [a3]
  simp [a0, a1, a2, a3]
theorem reads_strings {w : World} {g : Nat} {t : TypeId} {l : List ByteArray} (h : w.heap[g]? = some (.cells (l.map Value.string).toArray t (0, 0))) (hl : l.length ≤ 9223372036854775807) : Kd.C Kd.string w (some ⟨g, 0, none⟩) l.length l := by
  refine ⟨rfl, hl, fun _ => ⟨_, rfl, fun j p hj => ⟨[.string p], rfl, rfl, fun i u hu => ?_⟩⟩⟩
  have hi : i = 0 := by
    cases i with
    | zero => rfl
    | succ i => simp at hu
  subst hi
  have hadd : (⟨g, 0, none⟩ : Addr).add (j * Kd.string.sz + 0) = ⟨g, j, none⟩ := by
    show (⟨g, 0, none⟩ : Addr).add (j * 1 + 0) = _
    unfold Addr.add; split <;> simp_all
  rw [hadd, blk_cell h j]
  simp at hu
  subst hu
  simp [hj]
/-- what Op answers, and the table behind it -/
def opV (L : OL) (pri typ : Int) (s : ByteArray) : Int × OL :=
  if pri < 0 ∨ 1200 < pri ∨ typ < 1 ∨ 7 < typ ∨ 1000 < s.size then (2, L)
  else if resv s then (15, L)
  else if pri = 0 then (0, delK (s, sortT typ) L)
  else if sortT typ = 1 ∧ (lookK (s, 2) L).isSome then (15, L)
  else if sortT typ = 2 ∧ (lookK (s, 1) L).isSome then (15, L)
  else if 256 ≤ L.length ∧ (lookK (s, sortT typ) L).isSome = false then (9, L)
  else (0, putK (s, sortT typ) ⟨pri, typ, s⟩ L)
set_option maxHeartbeats 8000000 in
set_option maxRecDepth 100000 in
theorem op_nil (pri typ : Int) (s : ByteArray) (w : World) : Calls Try.prog 28 #[.pointer none, .int .i64 pri, .int .i64 typ, .string s] w fun e w' => e = .returned (.int .i64 1) ∧ Below w.heap.size w w' := by
  go_enter Try.func28, Try.ntmps28
  go_wp2_with fail
  go_ret
  exact ⟨rfl, Below.refl _ _⟩
set_option maxHeartbeats 8000000 in
set_option maxRecDepth 100000 in
theorem op_arg0 {b m : Nat} {L : OL} (pri typ : Int) (s : ByteArray) (w : World) (h : Tab w b m L) (h0 : pri < 0) :
    Calls Try.prog 28 #[.pointer (some ⟨b, 0, none⟩), .int .i64 pri, .int .i64 typ, .string s] w fun e w' => e = .returned (.int .i64 (opV L pri typ s).1) ∧ Tab w' b m (opV L pri typ s).2 ∧ w.grownBy w' (some m) := by
  have HV : Aside0 (opV L pri typ s = (2, L)) := ⟨by unfold opV; rw [if_pos (by omega)]⟩
  have HM := Aside0.mk h
  have d0 : decide (pri < 0) = true := decide_eq_true (by omega)
  clear h h0
  go_enter Try.func28, Try.ntmps28
  go_wp2_with fail
  go_ret
  rw [HV.out]
  exact ⟨rfl, HM.out, grown_of_below (Below.refl _ _) _⟩
set_option maxHeartbeats 8000000 in
set_option maxRecDepth 100000 in
theorem op_arg1 {b m : Nat} {L : OL} (pri typ : Int) (s : ByteArray) (w : World) (h : Tab w b m L) (h0 : ¬ (pri < 0) ∧ 1200 < pri) :
    Calls Try.prog 28 #[.pointer (some ⟨b, 0, none⟩), .int .i64 pri, .int .i64 typ, .string s] w fun e w' => e = .returned (.int .i64 (opV L pri typ s).1) ∧ Tab w' b m (opV L pri typ s).2 ∧ w.grownBy w' (some m) := by
  have HV : Aside0 (opV L pri typ s = (2, L)) := ⟨by unfold opV; rw [if_pos (by omega)]⟩
  have HM := Aside0.mk h
  have d0 : decide (pri < 0) = false := decide_eq_false (by omega)
  have d1 : decide (1200 < pri) = true := decide_eq_true (by omega)
  clear h h0
  go_enter Try.func28, Try.ntmps28
  go_wp2_with fail
  go_ret
  rw [HV.out]
  exact ⟨rfl, HM.out, grown_of_below (Below.refl _ _) _⟩
set_option maxHeartbeats 8000000 in
set_option maxRecDepth 100000 in
theorem op_arg2 {b m : Nat} {L : OL} (pri typ : Int) (s : ByteArray) (w : World) (h : Tab w b m L) (h0 : ¬ (pri < 0) ∧ ¬ (1200 < pri) ∧ typ < 1) :
    Calls Try.prog 28 #[.pointer (some ⟨b, 0, none⟩), .int .i64 pri, .int .i64 typ, .string s] w fun e w' => e = .returned (.int .i64 (opV L pri typ s).1) ∧ Tab w' b m (opV L pri typ s).2 ∧ w.grownBy w' (some m) := by
  have HV : Aside0 (opV L pri typ s = (2, L)) := ⟨by unfold opV; rw [if_pos (by omega)]⟩
  have HM := Aside0.mk h
  have d0 : decide (pri < 0) = false := decide_eq_false (by omega)
  have d1 : decide (1200 < pri) = false := decide_eq_false (by omega)
  have d2 : decide (typ < 1) = true := decide_eq_true (by omega)
  clear h h0
  go_enter Try.func28, Try.ntmps28
  go_wp2_with fail
  go_ret
  rw [HV.out]
  exact ⟨rfl, HM.out, grown_of_below (Below.refl _ _) _⟩
set_option maxHeartbeats 8000000 in
set_option maxRecDepth 100000 in
theorem op_arg3 {b m : Nat} {L : OL} (pri typ : Int) (s : ByteArray) (w : World) (h : Tab w b m L) (h0 : ¬ (pri < 0) ∧ ¬ (1200 < pri) ∧ ¬ (typ < 1) ∧ 7 < typ) :
    Calls Try.prog 28 #[.pointer (some ⟨b, 0, none⟩), .int .i64 pri, .int .i64 typ, .string s] w fun e w' => e = .returned (.int .i64 (opV L pri typ s).1) ∧ Tab w' b m (opV L pri typ s).2 ∧ w.grownBy w' (some m) := by
  have HV : Aside0 (opV L pri typ s = (2, L)) := ⟨by unfold opV; rw [if_pos (by omega)]⟩
  have HM := Aside0.mk h
  have d0 : decide (pri < 0) = false := decide_eq_false (by omega)
  have d1 : decide (1200 < pri) = false := decide_eq_false (by omega)
  have d2 : decide (typ < 1) = false := decide_eq_false (by omega)
  have d3 : decide (7 < typ) = true := decide_eq_true (by omega)
  clear h h0
  go_enter Try.func28, Try.ntmps28
  go_wp2_with fail
  go_ret
  rw [HV.out]
  exact ⟨rfl, HM.out, grown_of_below (Below.refl _ _) _⟩
set_option maxHeartbeats 8000000 in
set_option maxRecDepth 100000 in
theorem op_arg4 {b m : Nat} {L : OL} (pri typ : Int) (s : ByteArray) (w : World) (h : Tab w b m L) (h0 : ¬ (pri < 0) ∧ ¬ (1200 < pri) ∧ ¬ (typ < 1) ∧ ¬ (7 < typ) ∧ 1000 < s.size) :
    Calls Try.prog 28 #[.pointer (some ⟨b, 0, none⟩), .int .i64 pri, .int .i64 typ, .string s] w fun e w' => e = .returned (.int .i64 (opV L pri typ s).1) ∧ Tab w' b m (opV L pri typ s).2 ∧ w.grownBy w' (some m) := by
  have HV : Aside0 (opV L pri typ s = (2, L)) := ⟨by unfold opV; rw [if_pos (by omega)]⟩
  have HM := Aside0.mk h
  have d0 : decide (pri < 0) = false := decide_eq_false (by omega)
  have d1 : decide (1200 < pri) = false := decide_eq_false (by omega)
  have d2 : decide (typ < 1) = false := decide_eq_false (by omega)
  have d3 : decide (7 < typ) = false := decide_eq_false (by omega)
  have d4 : decide (1000 < s.size) = true := decide_eq_true (by omega)
  have d4b : decide ((1000 : Int) < (s.size : Int)) = true := decide_eq_true (by omega)
  clear h h0
  go_enter Try.func28, Try.ntmps28
  go_wp2_with fail
  go_ret
  rw [HV.out]
  exact ⟨rfl, HM.out, grown_of_below (Below.refl _ _) _⟩
theorem resv_calls (s : ByteArray) (w : World) : Calls Try.prog 69 #[.slice (some ⟨w.heap.size, 0, none⟩) 4 4, .string s] (w.alloc (.cells #[.string ⟨#[44]⟩, .string ⟨#[124]⟩, .string ⟨#[91, 93]⟩, .string ⟨#[123, 125]⟩] 9)) fun e w' => e = .returned (.bool (resv s)) ∧ Below w.heap.size w w' := by
  refine (slices_Contains_string_string.calls 6 _ _ reserved s (resv s) _ (reads_strings (t := 9) (heap_alloc_new _ _) (by decide)) (by decide) (resv_f s)).mono ?_
  rintro e w2 ⟨rfl, nd, rfl⟩
  exact ⟨rfl, pw_below_drewN (below_alloc (Below.refl _ _) _) _⟩
theorem index_shapes {typ : Int} (h1 : 1 ≤ typ) (h7 : typ ≤ 7) : ∀ w', (Instr.index 118 (.agg shapesV) (.int .i64 typ)).run Try.prog w' = .ok (.agg #[.int .i64 (sortT typ), .int .i64 (leftT typ), .int .i64 (rightT typ)]) w' := by
  intro w'
  obtain rfl | rfl | rfl | rfl | rfl | rfl | rfl : typ = 1 ∨ typ = 2 ∨ typ = 3 ∨ typ = 4 ∨ typ = 5 ∨ typ = 6 ∨ typ = 7 := by omega
  all_goals kernel_rfl
theorem field_shape : ∀ (a b c : Int) (w' : World), (Instr.field 117 (.agg #[.int .i64 a, .int .i64 b, .int .i64 c]) 0).run Try.prog w' = .ok (.int .i64 a) w' := fun a b c w' => by kernel_rfl
set_option maxHeartbeats 8000000 in
set_option maxRecDepth 100000 in
theorem op_resv {b m : Nat} {L : OL} (pri typ : Int) (s : ByteArray) (w : World) (h : Tab w b m L) (h0 : 0 ≤ pri ∧ pri ≤ 1200 ∧ 1 ≤ typ ∧ typ ≤ 7 ∧ s.size ≤ 1000) (h1 : resv s = true) :
    Calls Try.prog 28 #[.pointer (some ⟨b, 0, none⟩), .int .i64 pri, .int .i64 typ, .string s] w fun e w' => e = .returned (.int .i64 (opV L pri typ s).1) ∧ Tab w' b m (opV L pri typ s).2 ∧ w.grownBy w' (some m) := by
  have HV : Aside0 (opV L pri typ s = (15, L)) := ⟨by unfold opV; rw [if_neg (by omega), if_pos h1]⟩
  have HM := Aside0.mk h
  have d0 : decide (pri < 0) = false := decide_eq_false (by omega)
  have d1 : decide (1200 < pri) = false := decide_eq_false (by omega)
  have d2 : decide (typ < 1) = false := decide_eq_false (by omega)
  have d3 : decide (7 < typ) = false := decide_eq_false (by omega)
  have d4 : decide (1000 < s.size) = false := decide_eq_false (by omega)
  have d4b : decide ((1000 : Int) < (s.size : Int)) = false := decide_eq_false (by omega)
  clear h h0
  go_enter Try.func28, Try.ntmps28
  go_wp2_with (go_at_call 69; refine (resv_calls s _).mono ?_; rintro e w2 ⟨rfl, hb⟩; have c2 := HM.out.cell_kept hb)
  go_ret
  rw [HV.out]
  exact ⟨rfl, HM.out.kept hb, grown_of_below hb _⟩
theorem Tab.turned {w w' : World} {b m : Nat} {L L' : OL} (h : Tab w b m L) (hI : Is encSI encD w' m L') (hT : w.mapTurned w' m) : Tab w' b m L' := by
  refine ⟨(hT.grown.block b (Array.getElem?_eq_some_iff.1 h.box).1 ?_).trans h.box, hI⟩
  intro e
  injection e with e
  obtain ⟨es, clock, hb, _⟩ := h.map
  rw [← e, h.box] at hb
  cases hb
set_option maxHeartbeats 8000000 in
set_option maxRecDepth 100000 in
theorem op_zero {b m : Nat} {L : OL} (pri typ : Int) (s : ByteArray) (w : World) (h : Tab w b m L) (h0 : 0 ≤ pri ∧ pri ≤ 1200 ∧ 1 ≤ typ ∧ typ ≤ 7 ∧ s.size ≤ 1000) (h1 : resv s = false) (h2 : pri = 0) :
    Calls Try.prog 28 #[.pointer (some ⟨b, 0, none⟩), .int .i64 pri, .int .i64 typ, .string s] w fun e w' => e = .returned (.int .i64 (opV L pri typ s).1) ∧ Tab w' b m (opV L pri typ s).2 ∧ w.grownBy w' (some m) := by
  have HV : Aside0 (opV L pri typ s = (0, delK (s, sortT typ) L)) := ⟨by unfold opV; rw [if_neg (by omega), if_neg (by rw [h1]; decide), if_pos h2]⟩
  have HM := Aside0.mk h
  have HIX := index_shapes h0.2.2.1 h0.2.2.2.1
  have d0 : decide (pri < 0) = false := decide_eq_false (by omega)
  have d1 : decide (1200 < pri) = false := decide_eq_false (by omega)
  have d2 : decide (typ < 1) = false := decide_eq_false (by omega)
  have d3 : decide (7 < typ) = false := decide_eq_false (by omega)
  have d4 : decide (1000 < s.size) = false := decide_eq_false (by omega)
  have d4b : decide ((1000 : Int) < (s.size : Int)) = false := decide_eq_false (by omega)
  have HF := field_shape
  clear h h0
  subst h2
  generalize sortT typ = sq at *
  go_enter Try.func28, Try.ntmps28
  go_wp2_with (first | (go_at_call 69; refine (resv_calls s _).mono ?_; rintro e w2 ⟨rfl, hb⟩; have c2 := HM.out.cell_kept hb) | (go_at_call 70; refine (shapes_calls _).mono ?_; rintro e w3 ⟨rfl, hb3⟩; replace hb3 := below_step hb hb3; have c3 := HM.out.cell_kept hb3) | (at_delete; refine wp_delete _ rfl _ _ 120 124 rfl 126 opsKey (by kernel_rfl) rfl (HM.out.kept hb3).map (s, sq) rfl ?_; intro w9 hI hT))
  go_ret
  rw [HV.out]
  exact ⟨rfl, (HM.out.kept hb3).turned hI hT, (grown_of_below hb3 _).trans hT.grown⟩
set_option maxHeartbeats 8000000 in
set_option maxRecDepth 100000 in
theorem op_perm1 {b m : Nat} {L : OL} (pri typ : Int) (s : ByteArray) (w : World) (h : Tab w b m L) (h0 : 0 ≤ pri ∧ pri ≤ 1200 ∧ 1 ≤ typ ∧ typ ≤ 7 ∧ s.size ≤ 1000) (h1 : resv s = false) (h2 : ¬ pri = 0) (h3 : sortT typ = 1 ∧ (lookK (s, 2) L).isSome = true) :
    Calls Try.prog 28 #[.pointer (some ⟨b, 0, none⟩), .int .i64 pri, .int .i64 typ, .string s] w fun e w' => e = .returned (.int .i64 (opV L pri typ s).1) ∧ Tab w' b m (opV L pri typ s).2 ∧ w.grownBy w' (some m) := by
  have HV : Aside0 (opV L pri typ s = (15, L)) := ⟨by unfold opV; rw [if_neg (by omega), if_neg (by rw [h1]; decide), if_neg h2, if_pos ⟨h3.1, h3.2⟩]⟩
  have HM := Aside0.mk h
  have HIX := index_shapes h0.2.2.1 h0.2.2.2.1
  have d0 : decide (pri < 0) = false := decide_eq_false (by omega)
  have d1 : decide (1200 < pri) = false := decide_eq_false (by omega)
  have d2 : decide (typ < 1) = false := decide_eq_false (by omega)
  have d3 : decide (7 < typ) = false := decide_eq_false (by omega)
  have d4 : decide (1000 < s.size) = false := decide_eq_false (by omega)
  have d4b : decide ((1000 : Int) < (s.size : Int)) = false := decide_eq_false (by omega)
  have d5 : (pri == 0) = false := by simpa using h2
  have HF := field_shape
  have h4 : sortT typ = 1 := h3.1
  have hi : (lookK (s, 2) L).isSome = true := h3.2
  clear h h0 h2 h3
  rw [h4] at HIX
  clear h4
  go_enter Try.func28, Try.ntmps28
  go_wp2_with (first | (go_at_call 69; refine (resv_calls s _).mono ?_; rintro e w2 ⟨rfl, hb⟩; have c2 := HM.out.cell_kept hb) | (go_at_call 70; refine (shapes_calls _).mono ?_; rintro e w3 ⟨rfl, hb3⟩; replace hb3 := below_step hb hb3; have c3 := HM.out.cell_kept hb3) | (go_at_call 71; (with_reducible refine (has_calls s 2 _ (by first | exact HM.out.kept hb3)).mono ?_); rintro e w4 ⟨rfl, hb4⟩; replace hb4 := (by first | exact below_step hb3 hb4 : Below w.heap.size w w4); have c4 := HM.out.cell_kept hb4))
  go_ret
  rw [HV.out]
  exact ⟨rfl, HM.out.kept hb4, grown_of_below hb4 _⟩
set_option maxHeartbeats 8000000 in
set_option maxRecDepth 100000 in
theorem op_perm2 {b m : Nat} {L : OL} (pri typ : Int) (s : ByteArray) (w : World) (h : Tab w b m L) (h0 : 0 ≤ pri ∧ pri ≤ 1200 ∧ 1 ≤ typ ∧ typ ≤ 7 ∧ s.size ≤ 1000) (h1 : resv s = false) (h2 : ¬ pri = 0) (h3 : sortT typ = 2 ∧ (lookK (s, 1) L).isSome = true) :
    Calls Try.prog 28 #[.pointer (some ⟨b, 0, none⟩), .int .i64 pri, .int .i64 typ, .string s] w fun e w' => e = .returned (.int .i64 (opV L pri typ s).1) ∧ Tab w' b m (opV L pri typ s).2 ∧ w.grownBy w' (some m) := by
  have HV : Aside0 (opV L pri typ s = (15, L)) := ⟨by unfold opV; rw [if_neg (by omega), if_neg (by rw [h1]; decide), if_neg h2, if_neg (by rw [h3.1]; simp), if_pos ⟨h3.1, h3.2⟩]⟩
  have HM := Aside0.mk h
  have HIX := index_shapes h0.2.2.1 h0.2.2.2.1
  have d0 : decide (pri < 0) = false := decide_eq_false (by omega)
  have d1 : decide (1200 < pri) = false := decide_eq_false (by omega)
  have d2 : decide (typ < 1) = false := decide_eq_false (by omega)
  have d3 : decide (7 < typ) = false := decide_eq_false (by omega)
  have d4 : decide (1000 < s.size) = false := decide_eq_false (by omega)
  have d4b : decide ((1000 : Int) < (s.size : Int)) = false := decide_eq_false (by omega)
  have d5 : (pri == 0) = false := by simpa using h2
  have HF := field_shape
  have h4 : sortT typ = 2 := h3.1
  have hi : (lookK (s, 1) L).isSome = true := h3.2
  clear h h0 h2 h3
  rw [h4] at HIX
  clear h4
  go_enter Try.func28, Try.ntmps28
  go_wp2_with (first | (go_at_call 69; refine (resv_calls s _).mono ?_; rintro e w2 ⟨rfl, hb⟩; have c2 := HM.out.cell_kept hb) | (go_at_call 70; refine (shapes_calls _).mono ?_; rintro e w3 ⟨rfl, hb3⟩; replace hb3 := below_step hb hb3; have c3 := HM.out.cell_kept hb3) | (go_at_call 71; (with_reducible refine (has_calls s 1 _ (by first | exact HM.out.kept hb3)).mono ?_); rintro e w4 ⟨rfl, hb4⟩; replace hb4 := (by first | exact below_step hb3 hb4 : Below w.heap.size w w4); have c4 := HM.out.cell_kept hb4))
  go_ret
  rw [HV.out]
  exact ⟨rfl, HM.out.kept hb4, grown_of_below hb4 _⟩
set_option maxHeartbeats 8000000 in
set_option maxRecDepth 100000 in
theorem op_full0 {b m : Nat} {L : OL} (pri typ : Int) (s : ByteArray) (w : World) (h : Tab w b m L) (h0 : 0 ≤ pri ∧ pri ≤ 1200 ∧ 1 ≤ typ ∧ typ ≤ 7 ∧ s.size ≤ 1000) (h1 : resv s = false) (h2 : ¬ pri = 0) (h3 : sortT typ = 0) (h5 : 256 ≤ L.length ∧ (lookK (s, 0) L).isSome = false) :
    Calls Try.prog 28 #[.pointer (some ⟨b, 0, none⟩), .int .i64 pri, .int .i64 typ, .string s] w fun e w' => e = .returned (.int .i64 (opV L pri typ s).1) ∧ Tab w' b m (opV L pri typ s).2 ∧ w.grownBy w' (some m) := by
  have HV : Aside0 (opV L pri typ s = (9, L)) := ⟨by unfold opV; rw [if_neg (by omega), if_neg (by rw [h1]; decide), if_neg h2, if_neg (by rw [h3]; simp), if_neg (by rw [h3]; simp), if_pos (by rw [h3]; exact h5)]⟩
  have HM := Aside0.mk h
  have HIX := index_shapes h0.2.2.1 h0.2.2.2.1
  have d0 : decide (pri < 0) = false := decide_eq_false (by omega)
  have d1 : decide (1200 < pri) = false := decide_eq_false (by omega)
  have d2 : decide (typ < 1) = false := decide_eq_false (by omega)
  have d3 : decide (7 < typ) = false := decide_eq_false (by omega)
  have d4 : decide (1000 < s.size) = false := decide_eq_false (by omega)
  have d4b : decide ((1000 : Int) < (s.size : Int)) = false := decide_eq_false (by omega)
  have d5 : (pri == 0) = false := by simpa using h2
  have HF := field_shape
  have h4 : sortT typ = 0 := h3
  have l0 : decide ((256 : Int) ≤ (L.length : Int)) = true := decide_eq_true (by omega)
  have l1 : decide (256 ≤ L.length) = true := decide_eq_true (by omega)
  have hj : (lookK (s, 0) L).isSome = false := h5.2
  clear h5
  clear h h0 h2 h3
  rw [h4] at HIX
  clear h4
  go_enter Try.func28, Try.ntmps28
  go_wp2_with (first | (go_at_call 69; refine (resv_calls s _).mono ?_; rintro e w2 ⟨rfl, hb⟩; have c2 := HM.out.cell_kept hb) | (go_at_call 70; refine (shapes_calls _).mono ?_; rintro e w3 ⟨rfl, hb3⟩; replace hb3 := below_step hb hb3; have c3 := HM.out.cell_kept hb3) | (go_at_call 71; (with_reducible refine (has_calls s 0 _ (by first | exact HM.out.kept hb3)).mono ?_); rintro e w5 ⟨rfl, hb5⟩; replace hb5 := (by first | exact below_step hb3 hb5 : Below w.heap.size w w5); have c5 := HM.out.cell_kept hb5) | (at_len; refine wp_len _ rfl _ 120 rfl 124 126 (by kernel_rfl) rfl (by first | exact (HM.out.kept hb4).map | exact (HM.out.kept hb3).map) ?_))
  go_ret
  rw [HV.out]
  exact ⟨rfl, HM.out.kept hb5, grown_of_below hb5 _⟩
set_option maxHeartbeats 8000000 in
set_option maxRecDepth 100000 in
theorem op_old0 {b m : Nat} {L : OL} (pri typ : Int) (s : ByteArray) (w : World) (h : Tab w b m L) (h0 : 0 ≤ pri ∧ pri ≤ 1200 ∧ 1 ≤ typ ∧ typ ≤ 7 ∧ s.size ≤ 1000) (h1 : resv s = false) (h2 : ¬ pri = 0) (h3 : sortT typ = 0) (h5 : 256 ≤ L.length ∧ (lookK (s, 0) L).isSome = true) :
    Calls Try.prog 28 #[.pointer (some ⟨b, 0, none⟩), .int .i64 pri, .int .i64 typ, .string s] w fun e w' => e = .returned (.int .i64 (opV L pri typ s).1) ∧ Tab w' b m (opV L pri typ s).2 ∧ w.grownBy w' (some m) := by
  have HV : Aside0 (opV L pri typ s = (0, putK (s, 0) ⟨pri, typ, s⟩ L)) := ⟨by unfold opV; rw [if_neg (by omega), if_neg (by rw [h1]; decide), if_neg h2, if_neg (by rw [h3]; simp), if_neg (by rw [h3]; simp), if_neg (by rw [h3, h5.2]; simp), h3]⟩
  have HM := Aside0.mk h
  have HIX := index_shapes h0.2.2.1 h0.2.2.2.1
  have d0 : decide (pri < 0) = false := decide_eq_false (by omega)
  have d1 : decide (1200 < pri) = false := decide_eq_false (by omega)
  have d2 : decide (typ < 1) = false := decide_eq_false (by omega)
  have d3 : decide (7 < typ) = false := decide_eq_false (by omega)
  have d4 : decide (1000 < s.size) = false := decide_eq_false (by omega)
  have d4b : decide ((1000 : Int) < (s.size : Int)) = false := decide_eq_false (by omega)
  have d5 : (pri == 0) = false := by simpa using h2
  have HF := field_shape
  have h4 : sortT typ = 0 := h3
  have l0 : decide ((256 : Int) ≤ (L.length : Int)) = true := decide_eq_true (by omega)
  have l1 : decide (256 ≤ L.length) = true := decide_eq_true (by omega)
  have hj : (lookK (s, 0) L).isSome = true := h5.2
  clear h5
  clear h h0 h2 h3
  rw [h4] at HIX
  clear h4
  go_enter Try.func28, Try.ntmps28
  go_wp2_with (first | (go_at_call 69; refine (resv_calls s _).mono ?_; rintro e w2 ⟨rfl, hb⟩; have c2 := HM.out.cell_kept hb) | (go_at_call 70; refine (shapes_calls _).mono ?_; rintro e w3 ⟨rfl, hb3⟩; replace hb3 := below_step hb hb3; have c3 := HM.out.cell_kept hb3) | (go_at_call 71; (with_reducible refine (has_calls s 0 _ (by first | exact HM.out.kept hb3)).mono ?_); rintro e w5 ⟨rfl, hb5⟩; replace hb5 := (by first | exact below_step hb3 hb5 : Below w.heap.size w w5); have c5 := HM.out.cell_kept hb5) | (at_len; refine wp_len _ rfl _ 120 rfl 124 126 (by kernel_rfl) rfl (by first | exact (HM.out.kept hb4).map | exact (HM.out.kept hb3).map) ?_) | (at_mapUpdate; refine wp_store (encV := encD) _ rfl _ _ _ 120 rfl 124 126 opsKey (by kernel_rfl) rfl (by first | exact (HM.out.kept hb5).map | exact (HM.out.kept hb4).map | exact (HM.out.kept hb3).map) (s, 0) rfl ⟨pri, typ, s⟩ rfl ?_; intro w9 hI hT))
  go_ret
  rw [HV.out]
  exact ⟨rfl, (HM.out.kept hb5).turned hI hT, (grown_of_below hb5 _).trans hT.grown⟩
set_option maxHeartbeats 8000000 in
set_option maxRecDepth 100000 in
theorem op_room0 {b m : Nat} {L : OL} (pri typ : Int) (s : ByteArray) (w : World) (h : Tab w b m L) (h0 : 0 ≤ pri ∧ pri ≤ 1200 ∧ 1 ≤ typ ∧ typ ≤ 7 ∧ s.size ≤ 1000) (h1 : resv s = false) (h2 : ¬ pri = 0) (h3 : sortT typ = 0) (h5 : ¬ 256 ≤ L.length) :
    Calls Try.prog 28 #[.pointer (some ⟨b, 0, none⟩), .int .i64 pri, .int .i64 typ, .string s] w fun e w' => e = .returned (.int .i64 (opV L pri typ s).1) ∧ Tab w' b m (opV L pri typ s).2 ∧ w.grownBy w' (some m) := by
  have HV : Aside0 (opV L pri typ s = (0, putK (s, 0) ⟨pri, typ, s⟩ L)) := ⟨by unfold opV; rw [if_neg (by omega), if_neg (by rw [h1]; decide), if_neg h2, if_neg (by rw [h3]; simp), if_neg (by rw [h3]; simp), if_neg (by intro h; exact h5 h.1), h3]⟩
  have HM := Aside0.mk h
  have HIX := index_shapes h0.2.2.1 h0.2.2.2.1
  have d0 : decide (pri < 0) = false := decide_eq_false (by omega)
  have d1 : decide (1200 < pri) = false := decide_eq_false (by omega)
  have d2 : decide (typ < 1) = false := decide_eq_false (by omega)
  have d3 : decide (7 < typ) = false := decide_eq_false (by omega)
  have d4 : decide (1000 < s.size) = false := decide_eq_false (by omega)
  have d4b : decide ((1000 : Int) < (s.size : Int)) = false := decide_eq_false (by omega)
  have d5 : (pri == 0) = false := by simpa using h2
  have HF := field_shape
  have h4 : sortT typ = 0 := h3
  have l0 : decide ((256 : Int) ≤ (L.length : Int)) = false := decide_eq_false (by omega)
  have l1 : decide (256 ≤ L.length) = false := decide_eq_false (by omega)
  clear h5
  clear h h0 h2 h3
  rw [h4] at HIX
  clear h4
  go_enter Try.func28, Try.ntmps28
  go_wp2_with (first | (go_at_call 69; refine (resv_calls s _).mono ?_; rintro e w2 ⟨rfl, hb⟩; have c2 := HM.out.cell_kept hb) | (go_at_call 70; refine (shapes_calls _).mono ?_; rintro e w3 ⟨rfl, hb3⟩; replace hb3 := below_step hb hb3; have c3 := HM.out.cell_kept hb3) | (at_len; refine wp_len _ rfl _ 120 rfl 124 126 (by kernel_rfl) rfl (by first | exact (HM.out.kept hb4).map | exact (HM.out.kept hb3).map) ?_) | (at_mapUpdate; refine wp_store (encV := encD) _ rfl _ _ _ 120 rfl 124 126 opsKey (by kernel_rfl) rfl (by first | exact (HM.out.kept hb5).map | exact (HM.out.kept hb4).map | exact (HM.out.kept hb3).map) (s, 0) rfl ⟨pri, typ, s⟩ rfl ?_; intro w9 hI hT))
  go_ret
  rw [HV.out]
  exact ⟨rfl, (HM.out.kept hb3).turned hI hT, (grown_of_below hb3 _).trans hT.grown⟩
set_option maxHeartbeats 8000000 in
set_option maxRecDepth 100000 in
theorem op_full1 {b m : Nat} {L : OL} (pri typ : Int) (s : ByteArray) (w : World) (h : Tab w b m L) (h0 : 0 ≤ pri ∧ pri ≤ 1200 ∧ 1 ≤ typ ∧ typ ≤ 7 ∧ s.size ≤ 1000) (h1 : resv s = false) (h2 : ¬ pri = 0) (h3 : sortT typ = 1 ∧ (lookK (s, 2) L).isSome = false) (h5 : 256 ≤ L.length ∧ (lookK (s, 1) L).isSome = false) :
    Calls Try.prog 28 #[.pointer (some ⟨b, 0, none⟩), .int .i64 pri, .int .i64 typ, .string s] w fun e w' => e = .returned (.int .i64 (opV L pri typ s).1) ∧ Tab w' b m (opV L pri typ s).2 ∧ w.grownBy w' (some m) := by
  have HV : Aside0 (opV L pri typ s = (9, L)) := ⟨by unfold opV; rw [if_neg (by omega), if_neg (by rw [h1]; decide), if_neg h2, if_neg (by rw [h3.2]; simp), if_neg (by rw [h3.1]; simp), if_pos (by rw [h3.1]; exact h5)]⟩
  have HM := Aside0.mk h
  have HIX := index_shapes h0.2.2.1 h0.2.2.2.1
  have d0 : decide (pri < 0) = false := decide_eq_false (by omega)
  have d1 : decide (1200 < pri) = false := decide_eq_false (by omega)
  have d2 : decide (typ < 1) = false := decide_eq_false (by omega)
  have d3 : decide (7 < typ) = false := decide_eq_false (by omega)
  have d4 : decide (1000 < s.size) = false := decide_eq_false (by omega)
  have d4b : decide ((1000 : Int) < (s.size : Int)) = false := decide_eq_false (by omega)
  have d5 : (pri == 0) = false := by simpa using h2
  have HF := field_shape
  have h4 : sortT typ = 1 := h3.1
  have hi : (lookK (s, 2) L).isSome = false := h3.2
  have l0 : decide ((256 : Int) ≤ (L.length : Int)) = true := decide_eq_true (by omega)
  have l1 : decide (256 ≤ L.length) = true := decide_eq_true (by omega)
  have hj : (lookK (s, 1) L).isSome = false := h5.2
  clear h5
  clear h h0 h2 h3
  rw [h4] at HIX
  clear h4
  go_enter Try.func28, Try.ntmps28
  go_wp2_with (first | (go_at_call 69; refine (resv_calls s _).mono ?_; rintro e w2 ⟨rfl, hb⟩; have c2 := HM.out.cell_kept hb) | (go_at_call 70; refine (shapes_calls _).mono ?_; rintro e w3 ⟨rfl, hb3⟩; replace hb3 := below_step hb hb3; have c3 := HM.out.cell_kept hb3) | (go_at_call 71; (with_reducible refine (has_calls s 2 _ (by first | exact HM.out.kept hb3)).mono ?_); rintro e w4 ⟨rfl, hb4⟩; replace hb4 := (by first | exact below_step hb3 hb4 : Below w.heap.size w w4); have c4 := HM.out.cell_kept hb4) | (go_at_call 71; (with_reducible refine (has_calls s 1 _ (by first | exact HM.out.kept hb4)).mono ?_); rintro e w5 ⟨rfl, hb5⟩; replace hb5 := (by first | exact below_step hb4 hb5 : Below w.heap.size w w5); have c5 := HM.out.cell_kept hb5) | (at_len; refine wp_len _ rfl _ 120 rfl 124 126 (by kernel_rfl) rfl (by first | exact (HM.out.kept hb4).map | exact (HM.out.kept hb3).map) ?_))
  go_ret
  rw [HV.out]
  exact ⟨rfl, HM.out.kept hb5, grown_of_below hb5 _⟩
set_option maxHeartbeats 8000000 in
set_option maxRecDepth 100000 in
theorem op_old1 {b m : Nat} {L : OL} (pri typ : Int) (s : ByteArray) (w : World) (h : Tab w b m L) (h0 : 0 ≤ pri ∧ pri ≤ 1200 ∧ 1 ≤ typ ∧ typ ≤ 7 ∧ s.size ≤ 1000) (h1 : resv s = false) (h2 : ¬ pri = 0) (h3 : sortT typ = 1 ∧ (lookK (s, 2) L).isSome = false) (h5 : 256 ≤ L.length ∧ (lookK (s, 1) L).isSome = true) :
    Calls Try.prog 28 #[.pointer (some ⟨b, 0, none⟩), .int .i64 pri, .int .i64 typ, .string s] w fun e w' => e = .returned (.int .i64 (opV L pri typ s).1) ∧ Tab w' b m (opV L pri typ s).2 ∧ w.grownBy w' (some m) := by
  have HV : Aside0 (opV L pri typ s = (0, putK (s, 1) ⟨pri, typ, s⟩ L)) := ⟨by unfold opV; rw [if_neg (by omega), if_neg (by rw [h1]; decide), if_neg h2, if_neg (by rw [h3.2]; simp), if_neg (by rw [h3.1]; simp), if_neg (by rw [h3.1, h5.2]; simp), h3.1]⟩
  have HM := Aside0.mk h
  have HIX := index_shapes h0.2.2.1 h0.2.2.2.1
  have d0 : decide (pri < 0) = false := decide_eq_false (by omega)
  have d1 : decide (1200 < pri) = false := decide_eq_false (by omega)
  have d2 : decide (typ < 1) = false := decide_eq_false (by omega)
  have d3 : decide (7 < typ) = false := decide_eq_false (by omega)
  have d4 : decide (1000 < s.size) = false := decide_eq_false (by omega)
  have d4b : decide ((1000 : Int) < (s.size : Int)) = false := decide_eq_false (by omega)
  have d5 : (pri == 0) = false := by simpa using h2
  have HF := field_shape
  have h4 : sortT typ = 1 := h3.1
  have hi : (lookK (s, 2) L).isSome = false := h3.2
  have l0 : decide ((256 : Int) ≤ (L.length : Int)) = true := decide_eq_true (by omega)
  have l1 : decide (256 ≤ L.length) = true := decide_eq_true (by omega)
  have hj : (lookK (s, 1) L).isSome = true := h5.2
  clear h5
  clear h h0 h2 h3
  rw [h4] at HIX
  clear h4
  go_enter Try.func28, Try.ntmps28
  go_wp2_with (first | (go_at_call 69; refine (resv_calls s _).mono ?_; rintro e w2 ⟨rfl, hb⟩; have c2 := HM.out.cell_kept hb) | (go_at_call 70; refine (shapes_calls _).mono ?_; rintro e w3 ⟨rfl, hb3⟩; replace hb3 := below_step hb hb3; have c3 := HM.out.cell_kept hb3) | (go_at_call 71; (with_reducible refine (has_calls s 2 _ (by first | exact HM.out.kept hb3)).mono ?_); rintro e w4 ⟨rfl, hb4⟩; replace hb4 := (by first | exact below_step hb3 hb4 : Below w.heap.size w w4); have c4 := HM.out.cell_kept hb4) | (go_at_call 71; (with_reducible refine (has_calls s 1 _ (by first | exact HM.out.kept hb4)).mono ?_); rintro e w5 ⟨rfl, hb5⟩; replace hb5 := (by first | exact below_step hb4 hb5 : Below w.heap.size w w5); have c5 := HM.out.cell_kept hb5) | (at_len; refine wp_len _ rfl _ 120 rfl 124 126 (by kernel_rfl) rfl (by first | exact (HM.out.kept hb4).map | exact (HM.out.kept hb3).map) ?_) | (at_mapUpdate; refine wp_store (encV := encD) _ rfl _ _ _ 120 rfl 124 126 opsKey (by kernel_rfl) rfl (by first | exact (HM.out.kept hb5).map | exact (HM.out.kept hb4).map | exact (HM.out.kept hb3).map) (s, 1) rfl ⟨pri, typ, s⟩ rfl ?_; intro w9 hI hT))
  go_ret
  rw [HV.out]
  exact ⟨rfl, (HM.out.kept hb5).turned hI hT, (grown_of_below hb5 _).trans hT.grown⟩
set_option maxHeartbeats 8000000 in
set_option maxRecDepth 100000 in
theorem op_room1 {b m : Nat} {L : OL} (pri typ : Int) (s : ByteArray) (w : World) (h : Tab w b m L) (h0 : 0 ≤ pri ∧ pri ≤ 1200 ∧ 1 ≤ typ ∧ typ ≤ 7 ∧ s.size ≤ 1000) (h1 : resv s = false) (h2 : ¬ pri = 0) (h3 : sortT typ = 1 ∧ (lookK (s, 2) L).isSome = false) (h5 : ¬ 256 ≤ L.length) :
    Calls Try.prog 28 #[.pointer (some ⟨b, 0, none⟩), .int .i64 pri, .int .i64 typ, .string s] w fun e w' => e = .returned (.int .i64 (opV L pri typ s).1) ∧ Tab w' b m (opV L pri typ s).2 ∧ w.grownBy w' (some m) := by
  have HV : Aside0 (opV L pri typ s = (0, putK (s, 1) ⟨pri, typ, s⟩ L)) := ⟨by unfold opV; rw [if_neg (by omega), if_neg (by rw [h1]; decide), if_neg h2, if_neg (by rw [h3.2]; simp), if_neg (by rw [h3.1]; simp), if_neg (by intro h; exact h5 h.1), h3.1]⟩
  have HM := Aside0.mk h
  have HIX := index_shapes h0.2.2.1 h0.2.2.2.1
  have d0 : decide (pri < 0) = false := decide_eq_false (by omega)
  have d1 : decide (1200 < pri) = false := decide_eq_false (by omega)
  have d2 : decide (typ < 1) = false := decide_eq_false (by omega)
  have d3 : decide (7 < typ) = false := decide_eq_false (by omega)
  have d4 : decide (1000 < s.size) = false := decide_eq_false (by omega)
  have d4b : decide ((1000 : Int) < (s.size : Int)) = false := decide_eq_false (by omega)
  have d5 : (pri == 0) = false := by simpa using h2
  have HF := field_shape
  have h4 : sortT typ = 1 := h3.1
  have hi : (lookK (s, 2) L).isSome = false := h3.2
  have l0 : decide ((256 : Int) ≤ (L.length : Int)) = false := decide_eq_false (by omega)
  have l1 : decide (256 ≤ L.length) = false := decide_eq_false (by omega)
  clear h5
  clear h h0 h2 h3
  rw [h4] at HIX
  clear h4
  go_enter Try.func28, Try.ntmps28
  go_wp2_with (first | (go_at_call 69; refine (resv_calls s _).mono ?_; rintro e w2 ⟨rfl, hb⟩; have c2 := HM.out.cell_kept hb) | (go_at_call 70; refine (shapes_calls _).mono ?_; rintro e w3 ⟨rfl, hb3⟩; replace hb3 := below_step hb hb3; have c3 := HM.out.cell_kept hb3) | (go_at_call 71; (with_reducible refine (has_calls s 2 _ (by first | exact HM.out.kept hb3)).mono ?_); rintro e w4 ⟨rfl, hb4⟩; replace hb4 := (by first | exact below_step hb3 hb4 : Below w.heap.size w w4); have c4 := HM.out.cell_kept hb4) | (at_len; refine wp_len _ rfl _ 120 rfl 124 126 (by kernel_rfl) rfl (by first | exact (HM.out.kept hb4).map | exact (HM.out.kept hb3).map) ?_) | (at_mapUpdate; refine wp_store (encV := encD) _ rfl _ _ _ 120 rfl 124 126 opsKey (by kernel_rfl) rfl (by first | exact (HM.out.kept hb5).map | exact (HM.out.kept hb4).map | exact (HM.out.kept hb3).map) (s, 1) rfl ⟨pri, typ, s⟩ rfl ?_; intro w9 hI hT))
  go_ret
  rw [HV.out]
  exact ⟨rfl, (HM.out.kept hb4).turned hI hT, (grown_of_below hb4 _).trans hT.grown⟩
set_option maxHeartbeats 8000000 in
set_option maxRecDepth 100000 in
theorem op_full2 {b m : Nat} {L : OL} (pri typ : Int) (s : ByteArray) (w : World) (h : Tab w b m L) (h0 : 0 ≤ pri ∧ pri ≤ 1200 ∧ 1 ≤ typ ∧ typ ≤ 7 ∧ s.size ≤ 1000) (h1 : resv s = false) (h2 : ¬ pri = 0) (h3 : sortT typ = 2 ∧ (lookK (s, 1) L).isSome = false) (h5 : 256 ≤ L.length ∧ (lookK (s, 2) L).isSome = false) :
    Calls Try.prog 28 #[.pointer (some ⟨b, 0, none⟩), .int .i64 pri, .int .i64 typ, .string s] w fun e w' => e = .returned (.int .i64 (opV L pri typ s).1) ∧ Tab w' b m (opV L pri typ s).2 ∧ w.grownBy w' (some m) := by
  have HV : Aside0 (opV L pri typ s = (9, L)) := ⟨by unfold opV; rw [if_neg (by omega), if_neg (by rw [h1]; decide), if_neg h2, if_neg (by rw [h3.1]; simp), if_neg (by rw [h3.2]; simp), if_pos (by rw [h3.1]; exact h5)]⟩
  have HM := Aside0.mk h
  have HIX := index_shapes h0.2.2.1 h0.2.2.2.1
  have d0 : decide (pri < 0) = false := decide_eq_false (by omega)
  have d1 : decide (1200 < pri) = false := decide_eq_false (by omega)
  have d2 : decide (typ < 1) = false := decide_eq_false (by omega)
  have d3 : decide (7 < typ) = false := decide_eq_false (by omega)
  have d4 : decide (1000 < s.size) = false := decide_eq_false (by omega)
  have d4b : decide ((1000 : Int) < (s.size : Int)) = false := decide_eq_false (by omega)
  have d5 : (pri == 0) = false := by simpa using h2
  have HF := field_shape
  have h4 : sortT typ = 2 := h3.1
  have hi : (lookK (s, 1) L).isSome = false := h3.2
  have l0 : decide ((256 : Int) ≤ (L.length : Int)) = true := decide_eq_true (by omega)
  have l1 : decide (256 ≤ L.length) = true := decide_eq_true (by omega)
  have hj : (lookK (s, 2) L).isSome = false := h5.2
  clear h5
  clear h h0 h2 h3
  rw [h4] at HIX
  clear h4
  go_enter Try.func28, Try.ntmps28
  go_wp2_with (first | (go_at_call 69; refine (resv_calls s _).mono ?_; rintro e w2 ⟨rfl, hb⟩; have c2 := HM.out.cell_kept hb) | (go_at_call 70; refine (shapes_calls _).mono ?_; rintro e w3 ⟨rfl, hb3⟩; replace hb3 := below_step hb hb3; have c3 := HM.out.cell_kept hb3) | (go_at_call 71; (with_reducible refine (has_calls s 1 _ (by first | exact HM.out.kept hb3)).mono ?_); rintro e w4 ⟨rfl, hb4⟩; replace hb4 := (by first | exact below_step hb3 hb4 : Below w.heap.size w w4); have c4 := HM.out.cell_kept hb4) | (go_at_call 71; (with_reducible refine (has_calls s 2 _ (by first | exact HM.out.kept hb4)).mono ?_); rintro e w5 ⟨rfl, hb5⟩; replace hb5 := (by first | exact below_step hb4 hb5 : Below w.heap.size w w5); have c5 := HM.out.cell_kept hb5) | (at_len; refine wp_len _ rfl _ 120 rfl 124 126 (by kernel_rfl) rfl (by first | exact (HM.out.kept hb4).map | exact (HM.out.kept hb3).map) ?_))
  go_ret
  rw [HV.out]
  exact ⟨rfl, HM.out.kept hb5, grown_of_below hb5 _⟩
set_option maxHeartbeats 8000000 in
set_option maxRecDepth 100000 in
theorem op_old2 {b m : Nat} {L : OL} (pri typ : Int) (s : ByteArray) (w : World) (h : Tab w b m L) (h0 : 0 ≤ pri ∧ pri ≤ 1200 ∧ 1 ≤ typ ∧ typ ≤ 7 ∧ s.size ≤ 1000) (h1 : resv s = false) (h2 : ¬ pri = 0) (h3 : sortT typ = 2 ∧ (lookK (s, 1) L).isSome = false) (h5 : 256 ≤ L.length ∧ (lookK (s, 2) L).isSome = true) :
    Calls Try.prog 28 #[.pointer (some ⟨b, 0, none⟩), .int .i64 pri, .int .i64 typ, .string s] w fun e w' => e = .returned (.int .i64 (opV L pri typ s).1) ∧ Tab w' b m (opV L pri typ s).2 ∧ w.grownBy w' (some m) := by
  have HV : Aside0 (opV L pri typ s = (0, putK (s, 2) ⟨pri, typ, s⟩ L)) := ⟨by unfold opV; rw [if_neg (by omega), if_neg (by rw [h1]; decide), if_neg h2, if_neg (by rw [h3.1]; simp), if_neg (by rw [h3.2]; simp), if_neg (by rw [h3.1, h5.2]; simp), h3.1]⟩
  have HM := Aside0.mk h
  have HIX := index_shapes h0.2.2.1 h0.2.2.2.1
  have d0 : decide (pri < 0) = false := decide_eq_false (by omega)
  have d1 : decide (1200 < pri) = false := decide_eq_false (by omega)
  have d2 : decide (typ < 1) = false := decide_eq_false (by omega)
  have d3 : decide (7 < typ) = false := decide_eq_false (by omega)
  have d4 : decide (1000 < s.size) = false := decide_eq_false (by omega)
  have d4b : decide ((1000 : Int) < (s.size : Int)) = false := decide_eq_false (by omega)
  have d5 : (pri == 0) = false := by simpa using h2
  have HF := field_shape
  have h4 : sortT typ = 2 := h3.1
  have hi : (lookK (s, 1) L).isSome = false := h3.2
  have l0 : decide ((256 : Int) ≤ (L.length : Int)) = true := decide_eq_true (by omega)
  have l1 : decide (256 ≤ L.length) = true := decide_eq_true (by omega)
  have hj : (lookK (s, 2) L).isSome = true := h5.2
  clear h5
  clear h h0 h2 h3
  rw [h4] at HIX
  clear h4
  go_enter Try.func28, Try.ntmps28
  go_wp2_with (first | (go_at_call 69; refine (resv_calls s _).mono ?_; rintro e w2 ⟨rfl, hb⟩; have c2 := HM.out.cell_kept hb) | (go_at_call 70; refine (shapes_calls _).mono ?_; rintro e w3 ⟨rfl, hb3⟩; replace hb3 := below_step hb hb3; have c3 := HM.out.cell_kept hb3) | (go_at_call 71; (with_reducible refine (has_calls s 1 _ (by first | exact HM.out.kept hb3)).mono ?_); rintro e w4 ⟨rfl, hb4⟩; replace hb4 := (by first | exact below_step hb3 hb4 : Below w.heap.size w w4); have c4 := HM.out.cell_kept hb4) | (go_at_call 71; (with_reducible refine (has_calls s 2 _ (by first | exact HM.out.kept hb4)).mono ?_); rintro e w5 ⟨rfl, hb5⟩; replace hb5 := (by first | exact below_step hb4 hb5 : Below w.heap.size w w5); have c5 := HM.out.cell_kept hb5) | (at_len; refine wp_len _ rfl _ 120 rfl 124 126 (by kernel_rfl) rfl (by first | exact (HM.out.kept hb4).map | exact (HM.out.kept hb3).map) ?_) | (at_mapUpdate; refine wp_store (encV := encD) _ rfl _ _ _ 120 rfl 124 126 opsKey (by kernel_rfl) rfl (by first | exact (HM.out.kept hb5).map | exact (HM.out.kept hb4).map | exact (HM.out.kept hb3).map) (s, 2) rfl ⟨pri, typ, s⟩ rfl ?_; intro w9 hI hT))
  go_ret
  rw [HV.out]
  exact ⟨rfl, (HM.out.kept hb5).turned hI hT, (grown_of_below hb5 _).trans hT.grown⟩
set_option maxHeartbeats 8000000 in
set_option maxRecDepth 100000 in
theorem op_room2 {b m : Nat} {L : OL} (pri typ : Int) (s : ByteArray) (w : World) (h : Tab w b m L) (h0 : 0 ≤ pri ∧ pri ≤ 1200 ∧ 1 ≤ typ ∧ typ ≤ 7 ∧ s.size ≤ 1000) (h1 : resv s = false) (h2 : ¬ pri = 0) (h3 : sortT typ = 2 ∧ (lookK (s, 1) L).isSome = false) (h5 : ¬ 256 ≤ L.length) :
    Calls Try.prog 28 #[.pointer (some ⟨b, 0, none⟩), .int .i64 pri, .int .i64 typ, .string s] w fun e w' => e = .returned (.int .i64 (opV L pri typ s).1) ∧ Tab w' b m (opV L pri typ s).2 ∧ w.grownBy w' (some m) := by
  have HV : Aside0 (opV L pri typ s = (0, putK (s, 2) ⟨pri, typ, s⟩ L)) := ⟨by unfold opV; rw [if_neg (by omega), if_neg (by rw [h1]; decide), if_neg h2, if_neg (by rw [h3.1]; simp), if_neg (by rw [h3.2]; simp), if_neg (by intro h; exact h5 h.1), h3.1]⟩
  have HM := Aside0.mk h
  have HIX := index_shapes h0.2.2.1 h0.2.2.2.1
  have d0 : decide (pri < 0) = false := decide_eq_false (by omega)
  have d1 : decide (1200 < pri) = false := decide_eq_false (by omega)
  have d2 : decide (typ < 1) = false := decide_eq_false (by omega)
  have d3 : decide (7 < typ) = false := decide_eq_false (by omega)
  have d4 : decide (1000 < s.size) = false := decide_eq_false (by omega)
  have d4b : decide ((1000 : Int) < (s.size : Int)) = false := decide_eq_false (by omega)
  have d5 : (pri == 0) = false := by simpa using h2
  have HF := field_shape
  have h4 : sortT typ = 2 := h3.1
  have hi : (lookK (s, 1) L).isSome = false := h3.2
  have l0 : decide ((256 : Int) ≤ (L.length : Int)) = false := decide_eq_false (by omega)
  have l1 : decide (256 ≤ L.length) = false := decide_eq_false (by omega)
  clear h5
  clear h h0 h2 h3
  rw [h4] at HIX
  clear h4
  go_enter Try.func28, Try.ntmps28
  go_wp2_with (first | (go_at_call 69; refine (resv_calls s _).mono ?_; rintro e w2 ⟨rfl, hb⟩; have c2 := HM.out.cell_kept hb) | (go_at_call 70; refine (shapes_calls _).mono ?_; rintro e w3 ⟨rfl, hb3⟩; replace hb3 := below_step hb hb3; have c3 := HM.out.cell_kept hb3) | (go_at_call 71; (with_reducible refine (has_calls s 1 _ (by first | exact HM.out.kept hb3)).mono ?_); rintro e w4 ⟨rfl, hb4⟩; replace hb4 := (by first | exact below_step hb3 hb4 : Below w.heap.size w w4); have c4 := HM.out.cell_kept hb4) | (at_len; refine wp_len _ rfl _ 120 rfl 124 126 (by kernel_rfl) rfl (by first | exact (HM.out.kept hb4).map | exact (HM.out.kept hb3).map) ?_) | (at_mapUpdate; refine wp_store (encV := encD) _ rfl _ _ _ 120 rfl 124 126 opsKey (by kernel_rfl) rfl (by first | exact (HM.out.kept hb5).map | exact (HM.out.kept hb4).map | exact (HM.out.kept hb3).map) (s, 2) rfl ⟨pri, typ, s⟩ rfl ?_; intro w9 hI hT))
  go_ret
  rw [HV.out]
  exact ⟨rfl, (HM.out.kept hb4).turned hI hT, (grown_of_below hb4 _).trans hT.grown⟩
/-- Op, whatever it is handed. -/
theorem op_calls {b m : Nat} {L : OL} (pri typ : Int) (s : ByteArray) (w : World) (h : Tab w b m L) :
    Calls Try.prog 28 #[.pointer (some ⟨b, 0, none⟩), .int .i64 pri, .int .i64 typ, .string s] w fun e w' => e = .returned (.int .i64 (opV L pri typ s).1) ∧ Tab w' b m (opV L pri typ s).2 ∧ w.grownBy w' (some m) := by
  by_cases a0 : pri < 0
  · exact op_arg0 pri typ s w h a0
  by_cases a1 : 1200 < pri
  · exact op_arg1 pri typ s w h ⟨a0, a1⟩
  by_cases a2 : typ < 1
  · exact op_arg2 pri typ s w h ⟨a0, a1, a2⟩
  by_cases a3 : 7 < typ
  · exact op_arg3 pri typ s w h ⟨a0, a1, a2, a3⟩
  by_cases a4 : 1000 < s.size
  · exact op_arg4 pri typ s w h ⟨a0, a1, a2, a3, a4⟩
  have g : 0 ≤ pri ∧ pri ≤ 1200 ∧ 1 ≤ typ ∧ typ ≤ 7 ∧ s.size ≤ 1000 := by omega
  cases h1 : resv s with
  | true => exact op_resv pri typ s w h g h1
  | false =>
  by_cases h2 : pri = 0
  · exact op_zero pri typ s w h g h1 h2
  have hq : sortT typ = 0 ∨ sortT typ = 1 ∨ sortT typ = 2 := by unfold sortT; (repeat' split) <;> simp
  rcases hq with hq | hq | hq
  · by_cases h5 : 256 ≤ L.length
    · cases h6 : (lookK (s, 0) L).isSome with
      | false => exact op_full0 pri typ s w h g h1 h2 hq ⟨h5, h6⟩
      | true => exact op_old0 pri typ s w h g h1 h2 hq ⟨h5, h6⟩
    · exact op_room0 pri typ s w h g h1 h2 hq h5
  · cases h7 : (lookK (s, 2) L).isSome with
    | true => exact op_perm1 pri typ s w h g h1 h2 ⟨hq, h7⟩
    | false =>
    by_cases h5 : 256 ≤ L.length
    · cases h6 : (lookK (s, 1) L).isSome with
      | false => exact op_full1 pri typ s w h g h1 h2 ⟨hq, h7⟩ ⟨h5, h6⟩
      | true => exact op_old1 pri typ s w h g h1 h2 ⟨hq, h7⟩ ⟨h5, h6⟩
    · exact op_room1 pri typ s w h g h1 h2 ⟨hq, h7⟩ h5
  · cases h7 : (lookK (s, 1) L).isSome with
    | true => exact op_perm2 pri typ s w h g h1 h2 ⟨hq, h7⟩
    | false =>
    by_cases h5 : 256 ≤ L.length
    · cases h6 : (lookK (s, 2) L).isSome with
      | false => exact op_full2 pri typ s w h g h1 h2 ⟨hq, h7⟩ ⟨h5, h6⟩
      | true => exact op_old2 pri typ s w h g h1 h2 ⟨hq, h7⟩ ⟨h5, h6⟩
    · exact op_room2 pri typ s w h g h1 h2 ⟨hq, h7⟩ h5
end Go.Proofs.Ythdnaliahdohhaa.O
