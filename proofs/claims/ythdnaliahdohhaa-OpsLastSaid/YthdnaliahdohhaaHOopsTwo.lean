/- The table of operators (ops), II: Prefix, Infix, Postfix, Op. -/
import Derived.Test.YthdnaliahdohhaaHOopsTab
namespace Go.Proofs.Ythdnaliahdohhaa.O
open Go.RowKit Go.Proofs.YthdnaliahdohhaaW.PrintWords Go.Proofs.YthdnaliahdohhaaW.PrintLast Go.Proofs.YthdnaliahdohhaaW.PrintMore Go.Proofs.Ythdnaliahdohhaa.Map
attribute [local go_sem] max2_int min2_int max_two min_two max_three min_three max_four min_four
set_option linter.unusedVariables false
set_option linter.unusedSimpArgs false
def OkL (L : OL) : Prop := ∀ k d, lookK k L = some d → OkD d
theorem sides_calls {b m : Nat} {L : OL} (s : ByteArray) (n : Int) (w : World) (h : Tab w b m L) (hok : OkL L) :
    Calls Try.prog 68 #[.pointer (some ⟨b, 0, none⟩), .string s, .int .i64 n] w fun e w' => e = .returned (.tuple #[.int .i64 (sidesV (lookK (s, n) L)).1, .int .i64 (sidesV (lookK (s, n) L)).2.1, .int .i64 (sidesV (lookK (s, n) L)).2.2]) ∧ Below w.heap.size w w' := by
  cases hl : lookK (s, n) L with
  | none => exact sides_none s n w h hl
  | some d => exact sides_some s n w h d hl (hok _ d hl)
set_option maxHeartbeats 8000000 in
set_option maxRecDepth 100000 in
theorem prefix_calls {b m : Nat} {L : OL} (s : ByteArray) (w : World) (h : Tab w b m L) (hok : OkL L) :
    Calls Try.prog 25 #[.pointer (some ⟨b, 0, none⟩), .string s] w fun e w' => e = .returned (.tuple #[.int .i64 (sidesV (lookK (s, 0) L)).1, .int .i64 (sidesV (lookK (s, 0) L)).2.2]) ∧ Below w.heap.size w w' := by
  have HM := Aside0.mk h
  have HO := Aside0.mk hok
  clear h hok
  go_enter Try.func25, Try.ntmps25
  go_wp2_with (go_at_call 68; refine (sides_calls s 0 _ HM.out HO.out).mono ?_; rintro e w2 ⟨rfl, hb⟩)
  go_ret2
  exact ⟨rfl, hb⟩
set_option maxHeartbeats 8000000 in
set_option maxRecDepth 100000 in
theorem infix_calls {b m : Nat} {L : OL} (s : ByteArray) (w : World) (h : Tab w b m L) (hok : OkL L) :
    Calls Try.prog 26 #[.pointer (some ⟨b, 0, none⟩), .string s] w fun e w' => e = .returned (.tuple #[.int .i64 (sidesV (lookK (s, 1) L)).1, .int .i64 (sidesV (lookK (s, 1) L)).2.1, .int .i64 (sidesV (lookK (s, 1) L)).2.2]) ∧ Below w.heap.size w w' := by
  have HM := Aside0.mk h
  have HO := Aside0.mk hok
  clear h hok
  go_enter Try.func26, Try.ntmps26
  go_wp2_with (go_at_call 68; refine (sides_calls s 1 _ HM.out HO.out).mono ?_; rintro e w2 ⟨rfl, hb⟩)
  go_ret3
  exact ⟨rfl, hb⟩
set_option maxHeartbeats 8000000 in
set_option maxRecDepth 100000 in
theorem postfix_calls {b m : Nat} {L : OL} (s : ByteArray) (w : World) (h : Tab w b m L) (hok : OkL L) :
    Calls Try.prog 27 #[.pointer (some ⟨b, 0, none⟩), .string s] w fun e w' => e = .returned (.tuple #[.int .i64 (sidesV (lookK (s, 2) L)).1, .int .i64 (sidesV (lookK (s, 2) L)).2.1]) ∧ Below w.heap.size w w' := by
  have HM := Aside0.mk h
  have HO := Aside0.mk hok
  clear h hok
  go_enter Try.func27, Try.ntmps27
  go_wp2_with (go_at_call 68; refine (sides_calls s 2 _ HM.out HO.out).mono ?_; rintro e w2 ⟨rfl, hb⟩)
  go_ret2
  exact ⟨rfl, hb⟩
end Go.Proofs.Ythdnaliahdohhaa.O
