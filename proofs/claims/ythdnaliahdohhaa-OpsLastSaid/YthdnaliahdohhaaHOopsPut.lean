/- The table of operators (ops), IV: what New does with a row of names. -/
import Derived.Test.YthdnaliahdohhaaHOopsOp
namespace Go.Proofs.Ythdnaliahdohhaa.O
open Go.RowKit Go.Proofs.YthdnaliahdohhaaW.PrintWords Go.Proofs.YthdnaliahdohhaaW.PrintLast Go.Proofs.YthdnaliahdohhaaW.PrintMore Go.Proofs.Ythdnaliahdohhaa.Map
attribute [local go_sem] max2_int min2_int max_two min_two max_three min_three max_four min_four
set_option linter.unusedVariables false
set_option linter.unusedSimpArgs false
def putN (L : OL) (pri typ : Int) (l : List ByteArray) : OL := l.foldl (fun L n => putK (n, sortT typ) ⟨pri, typ, n⟩ L) L
theorem putN_take (L : OL) (pri typ : Int) (l : List ByteArray) (k : Nat) (h : k < l.length) : putN L pri typ (l.take (k + 1)) = putK (l[k], sortT typ) ⟨pri, typ, l[k]⟩ (putN L pri typ (l.take k)) := by
  unfold putN
  rw [List.take_succ_eq_append_getElem h, List.foldl_append]
  rfl
theorem Tab.ne {w : World} {b m g : Nat} {L : OL} {cs : Array Value} {t : TypeId} {x : Nat × Nat} (h : Tab w b m L) (hg : w.heap[g]? = some (.cells cs t x)) : g ≠ m := by
  rintro rfl
  obtain ⟨es, clock, hb, _⟩ := h.map
  rw [hg] at hb
  cases hb
theorem upd_ex {wr w4 : World} {b m c : Nat} {L : OL} {v : Value} (hT : Tab wr b m L) (hb : Below wr.heap.size wr w4) (s : ByteArray) (n p t : Int) (kc : c < wr.heap.size) (hc : wr.cell? ⟨c, 0, none⟩ = some v) (hcm : c ≠ m) :
    ∃ w9, (Instr.mapUpdate 120 (.map (some m)) (.agg #[.string s, .int .i64 n]) (.agg #[.int .i64 p, .int .i64 t, .string s])).run Try.prog w4 = .ok () w9 ∧ Aside0 (Tab w9 b m (putK (s, n) ⟨p, t, s⟩ L)) ∧ Aside0 (wr.grownBy w9 (some m)) ∧ w9.cell? ⟨c, 0, none⟩ = some v := by
  obtain ⟨w9, hrun, hI, hTu⟩ := (hT.kept hb).map.update (P := Try.prog) (t := 120) (e := 126) opsKey (by kernel_rfl) (s, n) ⟨p, t, s⟩
  refine ⟨w9, hrun, ⟨(hT.kept hb).turned hI hTu⟩, ⟨(grown_of_below hb _).trans hTu.grown⟩, ?_⟩
  have hg : wr.grownBy w9 (some m) := (grown_of_below hb _).trans hTu.grown
  rw [← hc]
  exact World.cell?_of_block (w := wr) (hg.block c kc (by intro e; injection e with e; exact hcm e))
set_option maxHeartbeats 8000000 in
set_option maxRecDepth 100000 in
theorem put_calls (pri typ : Int) (l : List ByteArray) (g c b m : Nat) (L : OL) (w : World) (ht : 1 ≤ typ ∧ typ ≤ 7) (hl : l.length ≤ 1000)
    (hN : w.heap[g]? = some (.cells (l.map Value.string).toArray 9 (0,0))) (hc : w.heap[c]? = some (.cells #[.pointer (some ⟨b, 0, none⟩)] 45 (0,0))) (h : Tab w b m L) :
    Calls Try.prog 94 #[.int .i64 pri, .int .i64 typ, .slice (some ⟨g, 0, none⟩) l.length l.length, .pointer (some ⟨c, 0, none⟩)] w fun e w' =>
      e = .returned (.tuple #[]) ∧ Tab w' b m (putN L pri typ l) ∧ w.grownBy w' (some m) := by
  have HIX := index_shapes ht.1 ht.2
  have HF := field_shape
  have Hgm := Aside0.mk (h.ne hN)
  have Hcm := Aside0.mk (h.ne hc)
  have HN := Aside0.mk hN
  have HC := Aside0.mk hc
  have HM := Aside0.mk h
  have Hl := Aside0.mk hl
  have HT := Aside0.mk ht
  clear hN hc h ht
  go_enter Try.func94, Try.ntmps94
  go_wp2
  go_loopw [11] (fun i wr => ∃ k : Nat, i = .int .i64 k ∧ Aside0 (k ≤ l.length) ∧ Aside0 (Tab wr b m (putN L pri typ (l.take k))) ∧ Aside0 (w.grownBy wr (some m))) (fun i _ => l.length - (intOf i).toNat)
  case atStart => exact ⟨0, rfl, ⟨by omega⟩, ⟨HM.out⟩, ⟨grown_of_below (Below.refl _ _) _⟩⟩
  case round =>
    obtain ⟨k, rfl, hk, hT, hG⟩ := hrel
    by_cases hlt : k < l.length
    · have hNr : wr.heap[g]? = some (.cells (l.map Value.string).toArray 9 (0,0)) := (hG.out.block g (blk_lt HN.out) (by intro e; injection e with e; exact Hgm.out e)).trans HN.out
      have hCr : wr.heap[c]? = some (.cells #[.pointer (some ⟨b, 0, none⟩)] 45 (0,0)) := (hG.out.block c (blk_lt HC.out) (by intro e; injection e with e; exact Hcm.out e)).trans HC.out
      have cN : wr.cell? ⟨g, k, none⟩ = some (.string l[k]) := (blk_cell hNr k).trans (by simp [hlt])
      have cC : wr.cell? ⟨c, 0, none⟩ = some (.pointer (some ⟨b, 0, none⟩)) := (blk_cell hCr 0).trans rfl
      have cB : wr.cell? ⟨b, 0, none⟩ = some (.map (some m)) := (blk_cell hT.out.box 0).trans rfl
      clear hNr hCr
      go_wp2_with fail
      have hT0 := Aside0.mk hT.out
      have kc := Aside0.mk (show c < wr.heap.size by have := blk_lt HC.out; have := hG.out.size; omega)
      clear cN
      go_region_held3 (fun w' => w'.cell? ⟨c, 0, none⟩ = some (.pointer (some ⟨b, 0, none⟩)) ∧ w'.cell? ⟨b, 0, none⟩ = some (.map (some m)) ∧ Aside0 (wr.grownBy w' (some m))) (first | exact S9 | exact S4 | exact ⟨cC, cB, ⟨grown_of_below (Below.refl _ _).drew _⟩⟩) (first | (go_at_call 70; refine (shapes_calls _).mono ?_; rintro e w4 ⟨rfl, hb4⟩; have hb5 := Aside0.mk (below_step (below_drew (Below.refl _ _)) hb4); have S4 : w4.cell? ⟨c, 0, none⟩ = some (.pointer (some ⟨b, 0, none⟩)) ∧ w4.cell? ⟨b, 0, none⟩ = some (.map (some m)) ∧ Aside0 (wr.grownBy w4 (some m)) := ⟨(hb5.out.cell (p := ⟨c, 0, none⟩) kc.out).trans cC, hT0.out.cell_kept hb5.out, ⟨grown_of_below hb5.out _⟩⟩; obtain ⟨w9, hrun, hI9, hT9, hC9⟩ := upd_ex hT0.out hb5.out l[k] (sortT typ) pri typ kc.out cC Hcm.out; have S9 : w9.cell? ⟨c, 0, none⟩ = some (.pointer (some ⟨b, 0, none⟩)) ∧ w9.cell? ⟨b, 0, none⟩ = some (.map (some m)) ∧ Aside0 (wr.grownBy w9 (some m)) := ⟨hC9, (blk_cell hI9.out.box 0).trans rfl, hT9⟩))
      have Hput := Aside0.mk (putN_take L pri typ l k hlt)
      go_wp2_with fail
      go_roundw
      case rel => exact ⟨k + 1, by go_num, ⟨by omega⟩, ⟨by rw [Hput.out]; exact hI9.out⟩, ⟨hG.out.trans hT9.out⟩⟩
      case measure => simp [intOf]; omega
    · have hlt3 : decide (k < l.length) = false := decide_eq_false hlt
      have hlt2 : decide ((k : Int) < (l.length : Int)) = false := decide_eq_false (by omega)
      go_wp2_with fail
      go_end0
      obtain rfl : k = l.length := by have := hk.out; omega
      exact ⟨rfl, by have := hT.out; rwa [List.take_length] at this, hG.out⟩

end Go.Proofs.Ythdnaliahdohhaa.O
