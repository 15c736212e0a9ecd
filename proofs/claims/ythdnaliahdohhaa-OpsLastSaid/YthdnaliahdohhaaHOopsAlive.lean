/- The table of operators (ops), VII: Made, alive. -/
import Derived.Test.YthdnaliahdohhaaHOopsIs
namespace Go.Proofs.Ythdnaliahdohhaa.O
open Go.RowKit Go.Proofs.YthdnaliahdohhaaW.PrintWords Go.Proofs.YthdnaliahdohhaaW.PrintLast Go.Proofs.YthdnaliahdohhaaW.PrintMore Go.Proofs.Ythdnaliahdohhaa.Map
attribute [local go_sem] max2_int min2_int max_two min_two max_three min_three max_four min_four
set_option linter.unusedVariables false
set_option linter.unusedSimpArgs false
structure S112 where
  f0 : Int
  f1 : Int
  f2 : ByteArray
def z112 : S112 := ⟨(0 : Int), (0 : Int), (⟨#[]⟩ : ByteArray)⟩
def k112 : Kd S112 := Kd.iso (Kd.pair (Kd.int .i64) (Kd.pair (Kd.int .i64) Kd.string)) (fun x : S112 => (x.f0, x.f1, x.f2))
theorem k112_open {w : World} {x : S112} {cs : List Value} (h : k112.K w x cs) : cs = [.int .i64 x.f0, .int .i64 x.f1, .string x.f2] := by
  obtain ⟨_, _, rfl, rfl, ⟨_, _, rfl, rfl, rfl⟩⟩ := h
  exact rfl
def rd_T112 (xs : List S112) (i : Int) : S112 := xs.getD i.toNat z112
theorem at_T112 {w : World} {A : Option Addr} {n : Nat} {xs : List S112} (h : Kd.C k112 w A n xs) (i : Int) (h0 : 0 ≤ i) (h1 : i < n) : ∃ ad , A = some ad ∧ w.cell? (ad.add (i.toNat * 3)) = some (.int .i64 (rd_T112 xs i).f0) ∧ w.cell? ⟨(ad.add (i.toNat * 3)).block, (ad.add (i.toNat * 3)).off + 1, none⟩ = some (.int .i64 (rd_T112 xs i).f1) ∧ w.cell? ⟨(ad.add (i.toNat * 3)).block, (ad.add (i.toNat * 3)).off + 2, none⟩ = some (.string (rd_T112 xs i).f2) := by
  obtain ⟨ad, c, e, _, hK, hc0⟩ := Kd.C_get h z112 i h0 h1
  have hc : ∀ j u, c[j]? = some u → w.cell? (ad.add (i.toNat * 3 + j)) = some u := hc0
  obtain rfl := k112_open hK
  exact ⟨ad, e, hc 0 _ rfl, by rw [← add_field _ _ 1 (by omega)]; exact hc 1 _ rfl, by rw [← add_field _ _ 2 (by omega)]; exact hc 2 _ rfl⟩
def madeL (L : OL) (l : List S112) : OL := l.foldl (fun L d => (opV L d.f0 d.f1 d.f2).2) L
theorem madeL_take (L : OL) (l : List S112) (k : Nat) (h : k < l.length) : madeL L (l.take (k + 1)) = (opV (madeL L (l.take k)) (rd_T112 l k).f0 (rd_T112 l k).f1 (rd_T112 l k).f2).2 := by
  unfold madeL
  rw [List.take_succ_eq_append_getElem h, List.foldl_append]
  simp [rd_T112, h]
theorem Mine.step {w w1 w2 : World} {b m : Nat} {L : OL} (h : Mine w w1 b m L) (hb : Below w1.heap.size w1 w2) : Mine w w2 b m L := ⟨h.tab.kept hb, h.lo, h.lom, below_step h.below hb⟩
set_option maxHeartbeats 8000000 in
set_option maxRecDepth 100000 in
theorem made_calls (A : Option Addr) (c : Nat) (l : List S112) (w : World) (hC : Kd.C k112 w A l.length l) (hl : l.length ≤ 1000) :
    Calls Try.prog 24 #[.slice A l.length c] w fun e w' => ∃ (b m : Nat), e = .returned (.pointer (some ⟨b, 0, none⟩)) ∧ Mine w w' b m (madeL newL l) := by
  have HC := Aside0.mk hC
  have Hl := Aside0.mk hl
  clear hC
  have hl2 : l.length ≤ 9223372036854775807 := by omega
  clear hl
  go_enter Try.func24, Try.ntmps24
  go_wp2_with (go_at_call 66; refine (new_calls _).mono ?_; rintro e w1 ⟨b, m, rfl, HM⟩)
  go_loopw [9] (fun i wr => ∃ k : Nat, i = .int .i64 k ∧ Aside0 (k ≤ l.length) ∧ Aside0 (Mine w wr b m (madeL newL (l.take k)))) (fun i _ => l.length - (intOf i).toNat)
  case atStart => exact ⟨0, rfl, ⟨by omega⟩, ⟨HM⟩⟩
  case round =>
    clear HM
    obtain ⟨k, rfl, hk, hM⟩ := hrel
    by_cases hlt : k < l.length
    · have hlt2 : decide ((k : Int) < (l.length : Int)) = true := decide_eq_true (by omega)
      have hlt3 : decide (k < l.length) = true := decide_eq_true hlt
      obtain ⟨ad, ead, e0, e1, e2⟩ := at_T112 HC.out (k : Int) (by omega) (by omega)
      have q0 := (hM.out.below.cell (World.block_lt_of_cell? w _ e0)).trans e0
      have q1 := (hM.out.below.cell (World.block_lt_of_cell? w _ e1)).trans e1
      have q2 := (hM.out.below.cell (World.block_lt_of_cell? w _ e2)).trans e2
      have Hm := Aside0.mk (madeL_take newL l k hlt)
      subst ead
      clear e0 e1 e2
      generalize rd_T112 l k = x at *
      obtain ⟨x0, x1, x2⟩ := x
      simp only [Int.toNat_natCast] at q0 q1 q2
      have hM2 := hM.out.step (below_alloc (Below.refl _ _) (.cells #[.int .i64 x0, .int .i64 x1, .string x2] 112))
      go_wp2_with (go_at_call 28; refine (op_calls x0 x1 x2 _ hM2.tab).mono ?_; rintro e w2 ⟨rfl, hT2, hg2⟩)
      go_roundw
      case rel => exact ⟨k + 1, by go_num, ⟨by omega⟩, ⟨by rw [Hm.out]; exact hM2.grown hT2 hg2⟩⟩
      case measure => simp [intOf]; omega
    · have hlt2 : decide ((k : Int) < (l.length : Int)) = false := decide_eq_false (by omega)
      have hlt3 : decide (k < l.length) = false := decide_eq_false hlt
      go_wp2_with fail
      go_ret
      obtain rfl : k = l.length := by have := hk.out; omega
      exact ⟨_, _, rfl, by have := hM.out; rwa [List.take_length] at this⟩
theorem newL_ok : OkL newL := by
  have h : newL.all (fun p => decide (1 ≤ p.2.typ) && decide (p.2.typ ≤ 7) && decide (0 ≤ p.2.pri) && decide (p.2.pri ≤ 1200)) = true := by decide +kernel
  intro k d hd
  have hm : ∀ (l : OL), lookK k l = some d → ∃ p ∈ l, p.2 = d := by
    intro l
    induction l with
    | nil => intro h; simp [lookK] at h
    | cons p l ih =>
      intro h
      unfold lookK at h
      split at h
      · exact ⟨p, List.mem_cons_self .., by simpa using h⟩
      · obtain ⟨q, hq, e⟩ := ih h; exact ⟨q, List.mem_cons_of_mem _ hq, e⟩
  obtain ⟨p, hp, rfl⟩ := hm _ hd
  have := List.all_eq_true.1 h p hp
  simpa [OkD, and_assoc] using this
theorem minus_in : sidesV (lookK (⟨#[45]⟩, 1) newL) = (500, 500, 499) := by decide +kernel
theorem minus_pre : sidesV (lookK (⟨#[45]⟩, 0) newL) = (200, 200, 200) := by decide +kernel
theorem is_perm : opV newL 700 6 ⟨#[105, 115]⟩ = (15, newL) := by kernel_rfl
theorem is_is : isV newL ⟨#[105, 115]⟩ = true := by decide +kernel
theorem foo_is : isV newL ⟨#[102, 111, 111]⟩ = false := by decide +kernel
set_option maxHeartbeats 8000000 in
set_option maxRecDepth 100000 in
theorem alive_calls (w : World) : Calls Try.prog 23 #[] w fun e w' => e = .returned (.bool true) ∧ Below w.heap.size w w' := by
  go_enter Try.func23, Try.ntmps23
  go_wp2_with (first | (go_at_call 66; refine (new_calls _).mono ?_; rintro e w1 ⟨b, m, rfl, M1⟩) | (go_at_call 26; refine (infix_calls ⟨#[45]⟩ _ M1.tab newL_ok).mono ?_; rw [minus_in]; rintro e w2 ⟨rfl, hb⟩; have M2 := M1.step hb; clear hb) | (go_at_call 25; refine (prefix_calls ⟨#[45]⟩ _ M2.tab newL_ok).mono ?_; rw [minus_pre]; rintro e w3 ⟨rfl, hb⟩; have M3 := M2.step hb; clear hb))
  refine (op_calls 700 6 ⟨#[105, 115]⟩ _ M3.tab).mono ?_
  rw [is_perm]
  rintro e w4 ⟨rfl, hT4, hg4⟩
  have M4 := M3.grown hT4 hg4
  clear hT4 hg4
  go_wp2_with fail
  refine (is_calls ⟨#[105, 115]⟩ _ M4.tab).mono ?_
  rw [is_is]
  rintro e w5 ⟨rfl, hb⟩
  have M5 := M4.step hb
  clear hb
  go_wp2_with fail
  refine (is_calls ⟨#[102, 111, 111]⟩ _ M5.tab).mono ?_
  rw [foo_is]
  rintro e w6 ⟨rfl, hb⟩
  have M6 := M5.step hb
  clear hb
  go_wp2_with fail
  refine (op_nil 1 1 ⟨#[97]⟩ _).mono ?_
  rintro e w7 ⟨rfl, hb⟩
  have M7 := M6.step hb
  clear hb
  go_wp2_with fail
  go_ret
  exact ⟨rfl, M7.below⟩
end Go.Proofs.Ythdnaliahdohhaa.O
