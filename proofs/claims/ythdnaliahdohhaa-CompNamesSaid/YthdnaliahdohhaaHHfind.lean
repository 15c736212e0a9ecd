/- term: numbers found, in the order in which they were found (found.find). -/
import Derived.Test.YthdnaliahdohhaaHHvar
namespace Go.Proofs.Ythdnaliahdohhaa.H
open Go.RowKit Go.Proofs.YthdnaliahdohhaaW.PrintWords Go.Proofs.YthdnaliahdohhaaW.PrintLast Go.Proofs.YthdnaliahdohhaaW.PrintMore Go.Proofs.Ythdnaliahdohhaa.Map
attribute [local go_sem] max2_int min2_int max_two min_two max_three min_three max_four min_four
set_option linter.unusedVariables false
set_option linter.unusedSimpArgs false
theorem und134 : Try.prog.underlying 134 = some (.map 2 2) := by kernel_rfl
theorem zero2 (w : World) : (zeroValue 2).run Try.prog w = .ok (.int .i64 0) w := by kernel_rfl
theorem info2 : (Try.prog.info? 2).map (fun i => (i.zero, i.size, i.bytes)) = some (some (.int .i64 0), 1, 8) := by kernel_rfl
/-- numbers and their places -/
abbrev FM := List (Int × Int)
/-- The finder in memory: a map of places, the numbers in a row of its own. -/
structure FS (w0 w : World) (g m : Nat) (v : Value) (M : FM) : Prop where
  below : Below w0.heap.size w0 w
  box : w.heap[g]? = some (.cells #[v, .map (some m)] 136 (0, 0))
  tab : Is iV iV w m M
  row : Kd.N (Kd.int .i64) 2 w w0.heap.size (fun k => w0.heap.size ≤ k ∧ k ≠ g ∧ k ≠ m) v (M.map (·.1))
  lg : w0.heap.size ≤ g
  lm : w0.heap.size ≤ m
theorem FS.step {w0 w w1 : World} {g m : Nat} {v : Value} {M : FM} (h : FS w0 w g m v M) (hb : Below w.heap.size w w1) : FS w0 w1 g m v M :=
  ⟨below_step h.below hb, blk_below h.box hb, h.tab.mods (Mods.of_below (fun _ => False) hb) id, Kd.N_below h.row hb, h.lg, h.lm⟩
/-- a row of elements that lead nowhere -/
theorem N_own {α : Type} {d : Kd α} {e : Nat} {w : World} {base : Nat} {ok : Nat → Prop} {v : Value} {xs : List α} (hd : ∀ {W W' : World} {x : α} {cs : List Value}, d.K W x cs → d.K W' x cs) (h : Kd.N d e w base ok v xs) : Kd.N d e w base (fun k => ok k ∧ v.ownBlock = some k) v xs := by
  obtain ⟨h0, rows, hl, hR, hf⟩ := h
  exact ⟨fun k hk => ⟨h0 k hk, hk⟩, rows, hl, hR, fun j x c hx hc W' _ => hd (Kd.FK_now (hf j x c hx hc))⟩
theorem N_mods {α : Type} {d : Kd α} {e : Nat} {w w1 : World} {base : Nat} {ok S : Nat → Prop} {v : Value} {xs : List α} (hd : ∀ {W W' : World} {x : α} {cs : List Value}, d.K W x cs → d.K W' x cs) (h : Kd.N d e w base ok v xs) (hm : Mods S w w1) (hv : ∀ k, v.ownBlock = some k → ¬ S k) : Kd.N d e w1 base ok v xs :=
  Kd.N_mono (Kd.N_step (N_own hd h) (fun k hk hl => hm.block k hl (hv k hk.2))) (fun k hk => hk.1)
theorem kInt_free {W W' : World} {x : Int} {cs : List Value} (h : (Kd.int .i64).K W x cs) : (Kd.int .i64).K W' x cs := h
/-- what no step of the finder writes -/
theorem FS.mods {w0 w w1 : World} {g m : Nat} {v : Value} {M : FM} {S : Nat → Prop} (h : FS w0 w g m v M) (hb : Mods S w w1) (hg : ¬ S g) (hm : ¬ S m) (hv : ∀ k, v.ownBlock = some k → ¬ S k) (hS : ∀ k, S k → w0.heap.size ≤ k) : FS w0 w1 g m v M :=
  ⟨hb.under h.below (Nat.le_refl _) hS, hb.blk h.box hg, h.tab.mods hb hm, N_mods kInt_free h.row hb hv, h.lg, h.lm⟩
/-- a number's place -/
def findA (n : Int) (M : FM) : Int := (lookK n M).getD M.length
def findM (n : Int) (M : FM) : FM := if (lookK n M).isSome then M else M ++ [(n, (M.length : Int))]
theorem put_new (n a : Int) : ∀ M : FM, (lookK n M).isSome = false → putK n a M = M ++ [(n, a)]
  | [], _ => rfl
  | p :: l, h => by
    unfold lookK at h
    unfold putK
    by_cases he : n = p.1
    · rw [if_pos he] at h; simp at h
    · rw [if_neg he] at h ⊢
      rw [put_new n a l h]
      rfl
theorem Is.look134 {w : World} {b : Nat} {L : FM} (h : Is iV iV w b L) (a : Int) : (Instr.lookup 134 (.map (some b)) (.int .i64 a) true).run Try.prog w = .ok (.tuple #[.int .i64 ((lookK a L).getD 0), .bool (lookK a L).isSome]) w := by
  have := h.lookup intK und134 (zero2 w) a true
  simp only [map_getD, if_true] at this
  exact this
theorem Is.put134 {w : World} {b : Nat} {L : FM} (h : Is iV iV w b L) (a v : Int) : ∃ w', (Instr.mapUpdate 134 (.map (some b)) (.int .i64 a) (.int .i64 v)).run Try.prog w = .ok () w' ∧ Is iV iV w' b (putK a v L) ∧ w.mapTurned w' b := h.update intK und134 a v
set_option maxHeartbeats 8000000 in
set_option maxRecDepth 100000 in
theorem find_calls (n : Int) (w0 w : World) (g m : Nat) (v : Value) (M : FM) (hI : FS w0 w g m v M) (hl : M.length ≤ 3000000) :
    Calls Try.prog 78 #[.pointer (some ⟨g, 0, none⟩), .int .i64 n] w fun e w' => ∃ v', e = .returned (.int .i64 (findA n M)) ∧ FS w0 w' g m v' (findM n M) ∧ CStep w w' g m v v' := by
  have HI := Aside0.mk hI
  have HL := Aside0.mk hl
  have c0 := (blk_cell hI.box 0).trans rfl
  have c1 := (blk_cell hI.box 1).trans rfl
  have hl1 := Is.look134 hI.tab n
  clear hI hl
  go_enter Try.func78, Try.ntmps78
  by_cases h1 : (lookK n M).isSome = true
  · have e1 : findA n M = (lookK n M).getD 0 := by
      unfold findA
      cases h : lookK n M with
      | none => rw [h] at h1; simp at h1
      | some a => rfl
    have e2 : findM n M = M := by unfold findM; rw [if_pos h1]
    rw [e1, e2]
    clear e1 e2
    go_wp2_with fail
    go_ret
    exact ⟨v, rfl, HI.out, CStep.of_below _ _ _ (Below.refl _ _)⟩
  · have h2 : (lookK n M).isSome = false := by simpa using h1
    have h3 : lookK n M = none := by simpa using h1
    have e1 : findA n M = M.length := by unfold findA; rw [h3]; rfl
    have e2 : findM n M = M ++ [(n, (M.length : Int))] := by unfold findM; rw [if_neg h1]
    rw [e1, e2]
    clear e1 e2 h1 h3
    have hM : (M.length : Int) = ((M.map (·.1)).length : Int) := by simp
    obtain ⟨A0, k0, e0⟩ := Kd.N_slice HI.out.row
    have hlen : (M.map (·.1)).length = M.length := by simp
    rw [hlen] at e0
    subst e0
    clear hM hlen
    obtain ⟨w3, hput, hI3, hT3⟩ := Is.put134 HI.out.tab n (M.length : Int)
    rw [put_new n _ M h2] at hI3
    have hn2 := HI.out.tab.ne_cells HI.out.box
    have BG3 := (Mods.of_map hT3).blk HI.out.box hn2
    have d0 := (blk_cell BG3 0).trans rfl
    have d1 := (blk_cell BG3 1).trans rfl
    have M3 : Mods (fun k => k = m) w w3 := Mods.of_map hT3
    have N3 := Aside0.mk (N_mods kInt_free HI.out.row M3 (fun k hk e => by have h1 := HI.out.row.1 k hk; exact h1.2.2 e))
    have B3 := Aside0.mk (M3.under HI.out.below (Nat.le_refl _) (fun k hk => by rw [hk]; exact HI.out.lm))
    have Hgl := Aside0.mk (show g < w3.heap.size ∧ m < w3.heap.size from ⟨blk_lt BG3, hI3.lt⟩)
    have M3 := Aside0.mk M3
    replace hI3 := Aside0.mk hI3
    replace BG3 := Aside0.mk BG3
    clear hT3
    go_wp2_with (at_builtin; refine Kd.N_append (Kd.int .i64) (w0 := w0) w0.heap.size rfl (.tmp 33) (.tmp 35) 66 2 (.int .i64 0) 8 rfl Try.underlying66 info2 rfl (by decide) (by omega) (.slice A0 M.length k0) (M.map (·.1)) n [.int .i64 n] (fun k => w0.heap.size ≤ k ∧ k ≠ g ∧ k ≠ m) (fun _ => False) rfl rfl (fun _ _ => rfl) (fun _ h => h.elim) (fun k hk => ⟨by have := B3.out.size; omega, by have := Hgl.out; omega, by have := Hgl.out; omega⟩) N3.out B3.out B3.out.size (by have := HL.out; simp; omega) ?_; intro v1 w6 N6 HB6 hg6 hat6; obtain ⟨A6, c6, e6⟩ := Kd.N_slice N6; generalize (M.map (·.1) ++ [n]).length = n6 at e6; subst e6; have hnr : ∀ q, (q = g ∨ q = m) → some q ≠ (Value.slice A0 M.length k0).ownBlock := (fun q hq he => by have := HI.out.row.1 q he.symm; rcases hq with rfl | rfl <;> omega); have j1 := (hg6.block g Hgl.out.1 (hnr g (.inl rfl))).trans BG3.out; have f0 := (blk_cell j1 0).trans rfl; have f1 := (blk_cell j1 1).trans rfl; have zz := blk_frozen j1 0; replace j1 := Aside0.mk j1; replace N6 := Aside0.mk N6; replace HB6 := Aside0.mk HB6; replace hg6 := Aside0.mk hg6; replace hat6 := Aside0.mk hat6; replace hnr := Aside0.mk hnr)
    go_ret
    have m1 : Mods (CW g m (.slice A0 M.length k0)) w w3 := M3.out.mono (fun k hk => .inl (.inr (.inl hk)))
    have m2 : Mods (CW g m (.slice A0 M.length k0)) w3 w6 := (Mods.of_grown hg6.out).mono (fun k hk => .inl (.inr (.inr hk)))
    have m3 := Mods.of_cell w6 ⟨g, 0, none⟩ (.slice A6 n6 c6)
    have t1 := (Is.mods hI3.out (Mods.of_grown hg6.out) (fun e => hnr.out m (.inr rfl) e.symm)).mods m3 (fun e => HI.out.tab.ne_cells HI.out.box e.symm)
    refine ⟨_, rfl, ⟨m3.under HB6.out (Nat.le_refl _) (fun k hk => by rw [hk]; exact HI.out.lg), blk_put (cs := #[.slice A0 M.length k0, .map (some m)]) j1.out 0 (.slice A6 n6 c6) rfl, t1, ?_, HI.out.lg, HI.out.lm⟩, ⟨(m1.then m2 (fun _ h => .inl h)).then m3 (fun k hk => .inl (.inl hk)), ?_⟩⟩
    · have h6 := N_mods kInt_free N6.out m3 (fun k hk e => by have h1 := N6.out.1 k hk; exact h1.2.1 e)
      simpa using h6
    · rcases hat6.out with h | ⟨b, h, hb⟩
      · exact .inl h
      · exact .inr ⟨b, h, by have := M3.out.size; omega⟩
end Go.Proofs.Ythdnaliahdohhaa.H
