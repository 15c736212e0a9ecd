/- The table of operators (ops), VIII: OpsLast. -/
import Derived.Test.YthdnaliahdohhaaHOopsAlive
namespace Go.Proofs.Ythdnaliahdohhaa.O
open Go.RowKit Go.Proofs.YthdnaliahdohhaaW.PrintWords Go.Proofs.YthdnaliahdohhaaW.PrintLast Go.Proofs.YthdnaliahdohhaaW.PrintMore Go.Proofs.Ythdnaliahdohhaa.Map
attribute [local go_sem] max2_int min2_int max_two min_two max_three min_three max_four min_four
set_option linter.unusedVariables false
set_option linter.unusedSimpArgs false
def prefV (o : Option Od) : Int × Int := ((sidesV o).1, (sidesV o).2.2)
theorem prefix_at {w w1 : World} {b m : Nat} {L : OL} (s : ByteArray) (h : Mine w w1 b m L) (hok : OkL L) (x y z : Int) (hv : sidesV (lookK (s, 0) L) = (x, y, z)) :
    Calls Try.prog 25 #[.pointer (some ⟨b, 0, none⟩), .string s] w1 fun e w' => e = .returned (.tuple #[.int .i64 x, .int .i64 z]) ∧ Mine w w' b m L := by
  refine (prefix_calls s w1 h.tab hok).mono ?_
  rw [hv]
  rintro e w2 ⟨rfl, hb⟩
  exact ⟨rfl, h.step hb⟩
theorem infix_at {w w1 : World} {b m : Nat} {L : OL} (s : ByteArray) (h : Mine w w1 b m L) (hok : OkL L) (x y z : Int) (hv : sidesV (lookK (s, 1) L) = (x, y, z)) :
    Calls Try.prog 26 #[.pointer (some ⟨b, 0, none⟩), .string s] w1 fun e w' => e = .returned (.tuple #[.int .i64 x, .int .i64 y, .int .i64 z]) ∧ Mine w w' b m L := by
  refine (infix_calls s w1 h.tab hok).mono ?_
  rw [hv]
  rintro e w2 ⟨rfl, hb⟩
  exact ⟨rfl, h.step hb⟩
theorem postfix_at {w w1 : World} {b m : Nat} {L : OL} (s : ByteArray) (h : Mine w w1 b m L) (hok : OkL L) (x y z : Int) (hv : sidesV (lookK (s, 2) L) = (x, y, z)) :
    Calls Try.prog 27 #[.pointer (some ⟨b, 0, none⟩), .string s] w1 fun e w' => e = .returned (.tuple #[.int .i64 x, .int .i64 y]) ∧ Mine w w' b m L := by
  refine (postfix_calls s w1 h.tab hok).mono ?_
  rw [hv]
  rintro e w2 ⟨rfl, hb⟩
  exact ⟨rfl, h.step hb⟩
theorem op_at {w w1 : World} {b m : Nat} {L : OL} (p k : Int) (s : ByteArray) (h : Mine w w1 b m L) (e0 : Int) (L' : OL) (hv : opV L p k s = (e0, L')) :
    Calls Try.prog 28 #[.pointer (some ⟨b, 0, none⟩), .int .i64 p, .int .i64 k, .string s] w1 fun e w' => e = .returned (.int .i64 e0) ∧ Mine w w' b m L' := by
  refine (op_calls p k s w1 h.tab).mono ?_
  rw [hv]
  rintro e w2 ⟨rfl, hT, hg⟩
  exact ⟨rfl, h.grown hT hg⟩
def refSort (t : Int) : Int := if t ≤ 3 then 2 else if t ≤ 5 then 1 else 3
theorem sort_calls (t : Int) (w : World) : Calls Try.prog 29 #[.int .i64 t] w fun e w' => e = .returned (.int .i64 (refSort t)) ∧ Drawn0 w w' := by
  have h : prolixref05_Sort.f t = some (refSort t) := by unfold prolixref05_Sort.f refSort; (repeat' split) <;> simp_all
  refine (prolixref05_Sort.calls t _ w h).mono ?_
  rintro e w2 ⟨rfl, h⟩
  exact ⟨rfl, h⟩
theorem Mine.q {w w1 : World} {b m g : Nat} {L : OL} {cs : Array Value} (h : Mine w w1 b m L) (hG : w.heap[g]? = some (.cells cs 44 (0,0))) {i : Nat} {v : Value} (hv : cs[i]? = some v) : w1.cell? ⟨g, i, none⟩ = some v :=
  (blk_cell ((h.below.block g (blk_lt hG)).trans hG) i).trans hv
theorem toList_ne {a b : ByteArray} (h : a ≠ b) : (a.toList == b.toList) = false := by
  rw [← beq_toListBytes, beq_bytes]
  exact decide_eq_false h
def OkE (L : OL) : Prop := ∀ p ∈ L, OkD p.2
theorem OkE.ok {L : OL} (h : OkE L) : OkL L := by
  intro k d hd
  have hm : ∀ (l : OL), lookK k l = some d → ∃ p ∈ l, p.2 = d := by
    intro l
    induction l with
    | nil => intro h; simp [lookK] at h
    | cons p l ih =>
      intro h
      unfold lookK at h
      split at h
      · exact ⟨p, List.mem_cons_self .., by simpa using h⟩
      · obtain ⟨q, hq, e⟩ := ih h; exact ⟨q, List.mem_cons_of_mem _ hq, e⟩
  obtain ⟨p, hp, rfl⟩ := hm _ hd
  exact h p hp
theorem put_mem (a : ByteArray × Int) (v : Od) : ∀ (l : OL) p, p ∈ putK a v l → p = (a, v) ∨ p ∈ l
  | [], p, h => by simp [putK] at h; left; rw [h]
  | q :: l, p, h => by
    unfold putK at h
    split at h
    · rcases List.mem_cons.1 h with rfl | h
      · exact Or.inl rfl
      · exact Or.inr (List.mem_cons_of_mem _ h)
    · rcases List.mem_cons.1 h with rfl | h
      · exact Or.inr (List.mem_cons_self ..)
      · rcases put_mem a v l p h with h | h
        · exact Or.inl h
        · exact Or.inr (List.mem_cons_of_mem _ h)
theorem opV_ok {L : OL} (h : OkE L) (p t : Int) (s : ByteArray) : OkE (opV L p t s).2 := by
  unfold opV
  split
  · exact h
  next h0 =>
  split
  · exact h
  split
  · intro q hq; exact h q (del_sub _ _ _ hq)
  split
  · exact h
  split
  · exact h
  split
  · exact h
  · intro q hq
    rcases put_mem _ _ _ _ hq with rfl | hq
    · simp only [OkD]; omega
    · exact h q hq
theorem newL_okE : OkE newL := by
  have h : newL.all (fun p => decide (1 ≤ p.2.typ) && decide (p.2.typ ≤ 7) && decide (0 ≤ p.2.pri) && decide (p.2.pri ≤ 1200)) = true := by decide +kernel
  intro p hp
  have := List.all_eq_true.1 h p hp
  simpa [OkD, and_assoc] using this
theorem madeL_ok (l : List S112) : ∀ {L : OL}, OkE L → OkE (madeL L l) := by
  induction l with
  | nil => exact fun h => h
  | cons d l ih => exact fun h => ih (opV_ok h _ _ _)
/-- what Op leaves, where it makes one -/
theorem opV_zero {L L' : OL} {p k : Int} {s : ByteArray} (hp : 1 ≤ p) (h : opV L p k s = (0, L')) : L' = putK (s, sortT k) ⟨p, k, s⟩ L ∧ (sortT k = 1 → lookK (s, 2) L = none) ∧ (sortT k = 2 → lookK (s, 1) L = none) := by
  unfold opV at h
  split at h
  · simp at h
  split at h
  · simp at h
  split at h
  · omega
  split at h
  · simp at h
  next h4 =>
  split at h
  · simp at h
  next h5 =>
  split at h
  · simp at h
  · refine ⟨by simpa using h.symm, fun h1 => ?_, fun h1 => ?_⟩
    · cases hl : lookK (s, 2) L with
      | none => rfl
      | some d => exact absurd ⟨h1, by rw [hl]; rfl⟩ h4
    · cases hl : lookK (s, 1) L with
      | none => rfl
      | some d => exact absurd ⟨h1, by rw [hl]; rfl⟩ h5
theorem look_other {L : OL} {s o : ByteArray} (h : o ≠ s) (k : Int) (d : Od) (j : Int) : lookK (o, j) (putK (s, k) d L) = lookK (o, j) L := by
  rw [look_put, if_neg (by simp [h])]
theorem look_sort {L : OL} {s : ByteArray} (k : Int) (d : Od) (j : Int) (h : j ≠ k) : lookK (s, j) (putK (s, k) d L) = lookK (s, j) L := by
  rw [look_put, if_neg (by simp [h])]
theorem look_self {L : OL} {s : ByteArray} (k : Int) (d : Od) : lookK (s, k) (putK (s, k) d L) = some d := by
  rw [look_put, if_pos rfl]
theorem sort_at {w w1 : World} {b m : Nat} {L : OL} (h : Mine w w1 b m L) (t r : Int) (hr : refSort t = r) : Calls Try.prog 29 #[.int .i64 t] w1 fun e w' => e = .returned (.int .i64 r) ∧ Mine w w' b m L := by
  refine (sort_calls t w1).mono ?_
  rw [hr]
  rintro e w2 ⟨rfl, n, rfl⟩
  exact ⟨rfl, h.step (pw_below_drewN (Below.refl _ _) n)⟩
set_option maxHeartbeats 8000000 in
set_option maxRecDepth 100000 in
theorem ol_main (A : Option Addr) (c : Nat) (l : List S112) (pri typ : Int) (name other : ByteArray) (w : World) (hC : Kd.C k112 w A l.length l) (h1 : l.length ≤ 300) (h2 : name.size ≤ 2000) (h3 : other.size ≤ 2000) (h4 : other ≠ name)
    (hp : 0 ≤ pri ∧ pri ≤ 65535) (ht : 0 ≤ typ ∧ typ ≤ 255) :
    Calls Try.prog 6 #[.agg #[.slice A l.length c, .int .u16 pri, .int .u8 typ, .string name], .string other] w fun e w' => e = .returned (.bool true) ∧ Below w.heap.size w w' := by
  have HC := Aside0.mk hC
  clear hC
  have d1 : decide (300 < l.length) = false := decide_eq_false (by omega)
  have d1' : decide ((300 : Int) < (l.length : Int)) = false := decide_eq_false (by omega)
  have d2 : decide (2000 < name.size) = false := decide_eq_false (by omega)
  have d2' : decide ((2000 : Int) < (name.size : Int)) = false := decide_eq_false (by omega)
  have d3 : decide (2000 < other.size) = false := decide_eq_false (by omega)
  have d3' : decide ((2000 : Int) < (other.size : Int)) = false := decide_eq_false (by omega)
  have d4 : (other == name) = false := by rw [beq_bytes]; exact decide_eq_false h4
  have d5 := toList_ne h4
  obtain ⟨p0, p1⟩ := hp
  obtain ⟨t0, t1⟩ := ht
  have HL5 : Aside0 (l.length ≤ 1000) := ⟨by omega⟩
  have HN := Aside0.mk h4
  clear h1 h2 h3 h4
  go_enter Try.func6, Try.ntmps6
  go_wp2_with fail
  refine (alive_calls _).mono ?_
  rintro e w1 ⟨rfl, hb1⟩
  have hG := Aside0.mk (blk_below (heap_alloc_new w (.cells #[.slice A l.length c, .int .u16 pri, .int .u8 typ, .string name] 44)) hb1)
  have HB := Aside0.mk (below_step (below_alloc (Below.refl _ _) _) hb1)
  clear hb1
  have c0 : w1.cell? ⟨w.heap.size, 0, none⟩ = some (.slice A l.length c) := (blk_cell hG.out 0).trans rfl
  have c3 : w1.cell? ⟨w.heap.size, 3, none⟩ = some (.string name) := (blk_cell hG.out 3).trans rfl
  have HC1 := Aside0.mk (Kd.C_below HC.out HB.out)
  clear HC
  go_wp2_with fail
  clear c0 c3
  refine (made_calls A c l _ HC1.out HL5.out).mono ?_
  rintro e w2 ⟨b, m, rfl, M2⟩
  have HO := Aside0.mk (madeL_ok l newL_okE)
  generalize madeL newL l = L at M2 HO
  have c1 : w2.cell? ⟨w.heap.size, 1, none⟩ = some (.int .u16 pri) := M2.q hG.out rfl
  have c2 : w2.cell? ⟨w.heap.size, 2, none⟩ = some (.int .u8 typ) := M2.q hG.out rfl
  go_wp2_with fail
  go_quiet (fail)
  go_wp2_with fail
  have M3 := M2.step (pw_below_drewN (Below.refl _ _) nq)
  clear c1 c2 M2
  generalize w2.drewN nq = w3 at M3 ⊢
  have HP : Aside0 (1 ≤ pri % 1200 + 1 ∧ pri % 1200 + 1 ≤ 1200) := ⟨by omega⟩
  have HT : Aside0 (1 ≤ typ % 7 + 1 ∧ typ % 7 + 1 ≤ 7) := ⟨by omega⟩
  clear p0 p1 t0 t1
  generalize pri % 1200 + 1 = p at HP ⊢
  generalize typ % 7 + 1 = k at HT ⊢
  obtain ⟨⟨x0, y0, z0⟩, h0⟩ : ∃ v, sidesV (lookK (other, 0) L) = v := ⟨_, rfl⟩
  obtain ⟨⟨x1, y1, z1⟩, h1⟩ : ∃ v, sidesV (lookK (other, 1) L) = v := ⟨_, rfl⟩
  obtain ⟨⟨x2, y2, z2⟩, h2⟩ : ∃ v, sidesV (lookK (other, 2) L) = v := ⟨_, rfl⟩
  obtain ⟨⟨x3, y3, z3⟩, h3⟩ : ∃ v, sidesV (lookK (name, 0) L) = v := ⟨_, rfl⟩
  obtain ⟨⟨x4, y4, z4⟩, h4⟩ : ∃ v, sidesV (lookK (name, 1) L) = v := ⟨_, rfl⟩
  obtain ⟨⟨e0, L'⟩, he⟩ : ∃ v, opV L p k name = v := ⟨_, rfl⟩
  have H0 := Aside0.mk h0
  have H1 := Aside0.mk h1
  have H2 := Aside0.mk h2
  have H3 := Aside0.mk h3
  have H4 := Aside0.mk h4
  have HE := Aside0.mk he
  clear h0 h1 h2 h3 h4 he
  refine (prefix_at other M3 HO.out.ok _ _ _ H0.out).mono ?_
  rintro e w4 ⟨rfl, M4⟩
  clear M3
  go_wp2_with fail
  refine (infix_at other M4 HO.out.ok _ _ _ H1.out).mono ?_
  rintro e w5 ⟨rfl, M5⟩
  clear M4
  go_wp2_with fail
  refine (postfix_at other M5 HO.out.ok _ _ _ H2.out).mono ?_
  rintro e w6 ⟨rfl, M6⟩
  clear M5
  have c3 : w6.cell? ⟨w.heap.size, 3, none⟩ = some (.string name) := M6.q hG.out rfl
  go_wp2_with fail
  clear c3
  refine (prefix_at name M6 HO.out.ok _ _ _ H3.out).mono ?_
  rintro e w7 ⟨rfl, M7⟩
  clear M6
  have c3 : w7.cell? ⟨w.heap.size, 3, none⟩ = some (.string name) := M7.q hG.out rfl
  go_wp2_with fail
  clear c3
  refine (infix_at name M7 HO.out.ok _ _ _ H4.out).mono ?_
  rintro e w8 ⟨rfl, M8⟩
  clear M7
  have c3 : w8.cell? ⟨w.heap.size, 3, none⟩ = some (.string name) := M8.q hG.out rfl
  go_wp2_with fail
  clear c3
  refine (op_at p k name M8 _ _ HE.out).mono ?_
  rintro e w9 ⟨rfl, M9⟩
  clear M8
  by_cases hz : e0 = 0
  · subst hz
    obtain ⟨hz1, hz2, hz3⟩ := opV_zero HP.out.1 HE.out
    have hk0 := HT.out
    rcases (show k ≤ 3 ∨ (4 ≤ k ∧ k ≤ 5) ∨ 6 ≤ k by omega) with hk | hk | hk
    · have hs : sortT k = 1 := by unfold sortT; (repeat' split) <;> omega
      have HR : Aside0 (refSort k = 2) := ⟨by unfold refSort; (repeat' split) <;> omega⟩
      rw [hs] at hz1
      have HO2 := Aside0.mk (show OkE L' by have := opV_ok HO.out p k name; rw [HE.out] at this; exact this)
      have HL := Aside0.mk hz1
      have G0 : Aside0 (sidesV (lookK (other, 0) L') = (x0, y0, z0)) := ⟨by rw [HL.out, look_other HN.out]; exact H0.out⟩
      have G1 : Aside0 (sidesV (lookK (other, 1) L') = (x1, y1, z1)) := ⟨by rw [HL.out, look_other HN.out]; exact H1.out⟩
      have G2 : Aside0 (sidesV (lookK (other, 2) L') = (x2, y2, z2)) := ⟨by rw [HL.out, look_other HN.out]; exact H2.out⟩
      have H5 : Aside0 (sidesV (lookK (name, 0) L') = (x3, y3, z3)) := ⟨by rw [HL.out, look_sort 1 _ 0 (by decide)]; exact H3.out⟩
      have H6 : Aside0 (sidesV (lookK (name, 1) L') = (p, p - leftT k, p - rightT k)) := ⟨by rw [HL.out, look_self]; rfl⟩
      have H7 : Aside0 (sidesV (lookK (name, 2) L') = (0, 0, 0)) := ⟨by rw [HL.out, look_sort 1 _ 2 (by decide), hz2 hs]; rfl⟩
      clear hs hz1 hz2 hz3 hk hk0
      go_wp2_with fail
      refine (prefix_at other M9 HO2.out.ok _ _ _ G0.out).mono ?_
      rintro e w10 ⟨rfl, M10⟩
      clear M9
      go_wp2_with fail
      refine (infix_at other M10 HO2.out.ok _ _ _ G1.out).mono ?_
      rintro e w11 ⟨rfl, M11⟩
      clear M10
      go_wp2_with fail
      refine (postfix_at other M11 HO2.out.ok _ _ _ G2.out).mono ?_
      rintro e w12 ⟨rfl, M12⟩
      clear M11
      have c3 : w12.cell? ⟨w.heap.size, 3, none⟩ = some (.string name) := M12.q hG.out rfl
      go_wp2_with fail
      clear c3
      refine (prefix_at name M12 HO2.out.ok _ _ _ H5.out).mono ?_
      rintro e w13 ⟨rfl, M13⟩
      clear M12
      have c3 : w13.cell? ⟨w.heap.size, 3, none⟩ = some (.string name) := M13.q hG.out rfl
      go_wp2_with fail
      clear c3
      refine (infix_at name M13 HO2.out.ok _ _ _ H6.out).mono ?_
      rintro e w14 ⟨rfl, M14⟩
      clear M13
      have c3 : w14.cell? ⟨w.heap.size, 3, none⟩ = some (.string name) := M14.q hG.out rfl
      go_wp2_with fail
      clear c3
      refine (postfix_at name M14 HO2.out.ok _ _ _ H7.out).mono ?_
      rintro e w15 ⟨rfl, M15⟩
      clear M14
      go_wp2_with fail
      refine (sort_at M15 k _ HR.out).mono ?_
      rintro e w16 ⟨rfl, M16⟩
      clear M15
      go_wp2_with fail
      go_ret
      exact ⟨rfl, below_step HB.out M16.below⟩
    · have hs : sortT k = 0 := by unfold sortT; (repeat' split) <;> omega
      have HR : Aside0 (refSort k = 1) := ⟨by unfold refSort; (repeat' split) <;> omega⟩
      rw [hs] at hz1
      have HO2 := Aside0.mk (show OkE L' by have := opV_ok HO.out p k name; rw [HE.out] at this; exact this)
      have HL := Aside0.mk hz1
      have G0 : Aside0 (sidesV (lookK (other, 0) L') = (x0, y0, z0)) := ⟨by rw [HL.out, look_other HN.out]; exact H0.out⟩
      have G1 : Aside0 (sidesV (lookK (other, 1) L') = (x1, y1, z1)) := ⟨by rw [HL.out, look_other HN.out]; exact H1.out⟩
      have G2 : Aside0 (sidesV (lookK (other, 2) L') = (x2, y2, z2)) := ⟨by rw [HL.out, look_other HN.out]; exact H2.out⟩
      obtain ⟨⟨x5, y5, z5⟩, h5⟩ : ∃ v, sidesV (lookK (name, 2) L') = v := ⟨_, rfl⟩
      have H7 := Aside0.mk h5
      clear h5
      have H5 : Aside0 (sidesV (lookK (name, 0) L') = (p, p - leftT k, p - rightT k)) := ⟨by rw [HL.out, look_self]; rfl⟩
      have H6 : Aside0 (sidesV (lookK (name, 1) L') = (x4, y4, z4)) := ⟨by rw [HL.out, look_sort 0 _ 1 (by decide)]; exact H4.out⟩
      clear hs hz1 hz2 hz3 hk hk0
      go_wp2_with fail
      refine (prefix_at other M9 HO2.out.ok _ _ _ G0.out).mono ?_
      rintro e w10 ⟨rfl, M10⟩
      clear M9
      go_wp2_with fail
      refine (infix_at other M10 HO2.out.ok _ _ _ G1.out).mono ?_
      rintro e w11 ⟨rfl, M11⟩
      clear M10
      go_wp2_with fail
      refine (postfix_at other M11 HO2.out.ok _ _ _ G2.out).mono ?_
      rintro e w12 ⟨rfl, M12⟩
      clear M11
      have c3 : w12.cell? ⟨w.heap.size, 3, none⟩ = some (.string name) := M12.q hG.out rfl
      go_wp2_with fail
      clear c3
      refine (prefix_at name M12 HO2.out.ok _ _ _ H5.out).mono ?_
      rintro e w13 ⟨rfl, M13⟩
      clear M12
      have c3 : w13.cell? ⟨w.heap.size, 3, none⟩ = some (.string name) := M13.q hG.out rfl
      go_wp2_with fail
      clear c3
      refine (infix_at name M13 HO2.out.ok _ _ _ H6.out).mono ?_
      rintro e w14 ⟨rfl, M14⟩
      clear M13
      have c3 : w14.cell? ⟨w.heap.size, 3, none⟩ = some (.string name) := M14.q hG.out rfl
      go_wp2_with fail
      clear c3
      refine (postfix_at name M14 HO2.out.ok _ _ _ H7.out).mono ?_
      rintro e w15 ⟨rfl, M15⟩
      clear M14
      go_wp2_with fail
      refine (sort_at M15 k _ HR.out).mono ?_
      rintro e w16 ⟨rfl, M16⟩
      clear M15
      go_wp2_with fail
      go_ret
      exact ⟨rfl, below_step HB.out M16.below⟩
    · have hs : sortT k = 2 := by unfold sortT; (repeat' split) <;> omega
      have HR : Aside0 (refSort k = 3) := ⟨by unfold refSort; (repeat' split) <;> omega⟩
      rw [hs] at hz1
      have HO2 := Aside0.mk (show OkE L' by have := opV_ok HO.out p k name; rw [HE.out] at this; exact this)
      have HL := Aside0.mk hz1
      have G0 : Aside0 (sidesV (lookK (other, 0) L') = (x0, y0, z0)) := ⟨by rw [HL.out, look_other HN.out]; exact H0.out⟩
      have G1 : Aside0 (sidesV (lookK (other, 1) L') = (x1, y1, z1)) := ⟨by rw [HL.out, look_other HN.out]; exact H1.out⟩
      have G2 : Aside0 (sidesV (lookK (other, 2) L') = (x2, y2, z2)) := ⟨by rw [HL.out, look_other HN.out]; exact H2.out⟩
      have H5 : Aside0 (sidesV (lookK (name, 0) L') = (x3, y3, z3)) := ⟨by rw [HL.out, look_sort 2 _ 0 (by decide)]; exact H3.out⟩
      have H6 : Aside0 (sidesV (lookK (name, 1) L') = (0, 0, 0)) := ⟨by rw [HL.out, look_sort 2 _ 1 (by decide), hz3 hs]; rfl⟩
      have H7 : Aside0 (sidesV (lookK (name, 2) L') = (p, p - leftT k, p - rightT k)) := ⟨by rw [HL.out, look_self]; rfl⟩
      clear hs hz1 hz2 hz3 hk hk0
      go_wp2_with fail
      refine (prefix_at other M9 HO2.out.ok _ _ _ G0.out).mono ?_
      rintro e w10 ⟨rfl, M10⟩
      clear M9
      go_wp2_with fail
      refine (infix_at other M10 HO2.out.ok _ _ _ G1.out).mono ?_
      rintro e w11 ⟨rfl, M11⟩
      clear M10
      go_wp2_with fail
      refine (postfix_at other M11 HO2.out.ok _ _ _ G2.out).mono ?_
      rintro e w12 ⟨rfl, M12⟩
      clear M11
      have c3 : w12.cell? ⟨w.heap.size, 3, none⟩ = some (.string name) := M12.q hG.out rfl
      go_wp2_with fail
      clear c3
      refine (prefix_at name M12 HO2.out.ok _ _ _ H5.out).mono ?_
      rintro e w13 ⟨rfl, M13⟩
      clear M12
      have c3 : w13.cell? ⟨w.heap.size, 3, none⟩ = some (.string name) := M13.q hG.out rfl
      go_wp2_with fail
      clear c3
      refine (infix_at name M13 HO2.out.ok _ _ _ H6.out).mono ?_
      rintro e w14 ⟨rfl, M14⟩
      clear M13
      have c3 : w14.cell? ⟨w.heap.size, 3, none⟩ = some (.string name) := M14.q hG.out rfl
      go_wp2_with fail
      clear c3
      refine (postfix_at name M14 HO2.out.ok _ _ _ H7.out).mono ?_
      rintro e w15 ⟨rfl, M15⟩
      clear M14
      go_wp2_with fail
      refine (sort_at M15 k _ HR.out).mono ?_
      rintro e w16 ⟨rfl, M16⟩
      clear M15
      go_wp2_with fail
      go_ret
      exact ⟨rfl, below_step HB.out M16.below⟩
  · have hz2 : (e0 == 0) = false := by simpa using hz
    have hz3 : (e0 != 0) = true := by simpa using hz
    go_wp2_with fail
    go_ret
    exact ⟨rfl, below_step HB.out M9.below⟩
set_option maxHeartbeats 8000000 in
set_option maxRecDepth 100000 in
theorem ol_early0 (A : Option Addr) (c : Nat) (l : List S112) (pri typ : Int) (name other : ByteArray) (w : World)  (h0 : 300 < l.length) :
    Calls Try.prog 6 #[.agg #[.slice A l.length c, .int .u16 pri, .int .u8 typ, .string name], .string other] w fun e w' => e = .returned (.bool true) ∧ Below w.heap.size w w' := by
  have d0 : decide (300 < l.length) = true := decide_eq_true (by omega)
  have d0' : decide ((300 : Int) < (l.length : Int)) = true := decide_eq_true (by omega)
  clear h0
  go_enter Try.func6, Try.ntmps6
  go_wp2_with fail
  refine (alive_calls _).mono ?_
  rintro e w1 ⟨rfl, hb1⟩
  have hG := Aside0.mk (blk_below (heap_alloc_new w (.cells #[.slice A l.length c, .int .u16 pri, .int .u8 typ, .string name] 44)) hb1)
  have HB := Aside0.mk (below_step (below_alloc (Below.refl _ _) _) hb1)
  clear hb1
  have c0 : w1.cell? ⟨w.heap.size, 0, none⟩ = some (.slice A l.length c) := (blk_cell hG.out 0).trans rfl
  have c3 : w1.cell? ⟨w.heap.size, 3, none⟩ = some (.string name) := (blk_cell hG.out 3).trans rfl
  go_wp2_with fail
  go_ret
  exact ⟨rfl, HB.out⟩
set_option maxHeartbeats 8000000 in
set_option maxRecDepth 100000 in
theorem ol_early1 (A : Option Addr) (c : Nat) (l : List S112) (pri typ : Int) (name other : ByteArray) (w : World) (h0 : ¬ 300 < l.length) (h1 : 2000 < name.size) :
    Calls Try.prog 6 #[.agg #[.slice A l.length c, .int .u16 pri, .int .u8 typ, .string name], .string other] w fun e w' => e = .returned (.bool true) ∧ Below w.heap.size w w' := by
  have d0 : decide (300 < l.length) = false := decide_eq_false (by omega)
  have d0' : decide ((300 : Int) < (l.length : Int)) = false := decide_eq_false (by omega)
  have d1 : decide (2000 < name.size) = true := decide_eq_true (by omega)
  have d1' : decide ((2000 : Int) < (name.size : Int)) = true := decide_eq_true (by omega)
  clear h0 h1
  go_enter Try.func6, Try.ntmps6
  go_wp2_with fail
  refine (alive_calls _).mono ?_
  rintro e w1 ⟨rfl, hb1⟩
  have hG := Aside0.mk (blk_below (heap_alloc_new w (.cells #[.slice A l.length c, .int .u16 pri, .int .u8 typ, .string name] 44)) hb1)
  have HB := Aside0.mk (below_step (below_alloc (Below.refl _ _) _) hb1)
  clear hb1
  have c0 : w1.cell? ⟨w.heap.size, 0, none⟩ = some (.slice A l.length c) := (blk_cell hG.out 0).trans rfl
  have c3 : w1.cell? ⟨w.heap.size, 3, none⟩ = some (.string name) := (blk_cell hG.out 3).trans rfl
  go_wp2_with fail
  go_ret
  exact ⟨rfl, HB.out⟩
set_option maxHeartbeats 8000000 in
set_option maxRecDepth 100000 in
theorem ol_early2 (A : Option Addr) (c : Nat) (l : List S112) (pri typ : Int) (name other : ByteArray) (w : World) (h0 : ¬ 300 < l.length) (h1 : ¬ 2000 < name.size) (h2 : 2000 < other.size) :
    Calls Try.prog 6 #[.agg #[.slice A l.length c, .int .u16 pri, .int .u8 typ, .string name], .string other] w fun e w' => e = .returned (.bool true) ∧ Below w.heap.size w w' := by
  have d0 : decide (300 < l.length) = false := decide_eq_false (by omega)
  have d0' : decide ((300 : Int) < (l.length : Int)) = false := decide_eq_false (by omega)
  have d1 : decide (2000 < name.size) = false := decide_eq_false (by omega)
  have d1' : decide ((2000 : Int) < (name.size : Int)) = false := decide_eq_false (by omega)
  have d2 : decide (2000 < other.size) = true := decide_eq_true (by omega)
  have d2' : decide ((2000 : Int) < (other.size : Int)) = true := decide_eq_true (by omega)
  clear h0 h1 h2
  go_enter Try.func6, Try.ntmps6
  go_wp2_with fail
  refine (alive_calls _).mono ?_
  rintro e w1 ⟨rfl, hb1⟩
  have hG := Aside0.mk (blk_below (heap_alloc_new w (.cells #[.slice A l.length c, .int .u16 pri, .int .u8 typ, .string name] 44)) hb1)
  have HB := Aside0.mk (below_step (below_alloc (Below.refl _ _) _) hb1)
  clear hb1
  have c0 : w1.cell? ⟨w.heap.size, 0, none⟩ = some (.slice A l.length c) := (blk_cell hG.out 0).trans rfl
  have c3 : w1.cell? ⟨w.heap.size, 3, none⟩ = some (.string name) := (blk_cell hG.out 3).trans rfl
  go_wp2_with fail
  go_ret
  exact ⟨rfl, HB.out⟩
set_option maxHeartbeats 8000000 in
set_option maxRecDepth 100000 in
theorem ol_early3 (A : Option Addr) (c : Nat) (l : List S112) (pri typ : Int) (name other : ByteArray) (w : World) (h0 : ¬ 300 < l.length) (h1 : ¬ 2000 < name.size) (h2 : ¬ 2000 < other.size) (h3 : other = name) :
    Calls Try.prog 6 #[.agg #[.slice A l.length c, .int .u16 pri, .int .u8 typ, .string name], .string other] w fun e w' => e = .returned (.bool true) ∧ Below w.heap.size w w' := by
  have d0 : decide (300 < l.length) = false := decide_eq_false (by omega)
  have d0' : decide ((300 : Int) < (l.length : Int)) = false := decide_eq_false (by omega)
  have d1 : decide (2000 < name.size) = false := decide_eq_false (by omega)
  have d1' : decide ((2000 : Int) < (name.size : Int)) = false := decide_eq_false (by omega)
  have d2 : decide (2000 < other.size) = false := decide_eq_false (by omega)
  have d2' : decide ((2000 : Int) < (other.size : Int)) = false := decide_eq_false (by omega)
  subst h3
  clear h0 h1 h2
  go_enter Try.func6, Try.ntmps6
  go_wp2_with fail
  refine (alive_calls _).mono ?_
  rintro e w1 ⟨rfl, hb1⟩
  have hG := Aside0.mk (blk_below (heap_alloc_new w (.cells #[.slice A l.length c, .int .u16 pri, .int .u8 typ, .string other] 44)) hb1)
  have HB := Aside0.mk (below_step (below_alloc (Below.refl _ _) _) hb1)
  clear hb1
  have c0 : w1.cell? ⟨w.heap.size, 0, none⟩ = some (.slice A l.length c) := (blk_cell hG.out 0).trans rfl
  have c3 : w1.cell? ⟨w.heap.size, 3, none⟩ = some (.string other) := (blk_cell hG.out 3).trans rfl
  go_wp2_with fail
  go_ret
  exact ⟨rfl, HB.out⟩
theorem opsLast_walk (A : Option Addr) (c : Nat) (l : List S112) (pri typ : Int) (name other : ByteArray) (w : World) (hC : Kd.C k112 w A l.length l)
    (hp : 0 ≤ pri ∧ pri ≤ 65535) (ht : 0 ≤ typ ∧ typ ≤ 255) :
    Calls Try.prog 6 #[.agg #[.slice A l.length c, .int .u16 pri, .int .u8 typ, .string name], .string other] w fun e w' => e = .returned (.bool true) ∧ Below w.heap.size w w' := by
  by_cases h0 : 300 < l.length
  · exact ol_early0 A c l pri typ name other w h0
  by_cases h1 : 2000 < name.size
  · exact ol_early1 A c l pri typ name other w h0 h1
  by_cases h2 : 2000 < other.size
  · exact ol_early2 A c l pri typ name other w h0 h1 h2
  by_cases h3 : other = name
  · exact ol_early3 A c l pri typ name other w h0 h1 h2 h3
  · exact ol_main A c l pri typ name other w hC (by omega) (by omega) (by omega) h3 hp ht
end Go.Proofs.Ythdnaliahdohhaa.O
