/- What reads as a datum of a type reads as the printed words' kind: whole numbers, bools, strings, structs of these, slices of these, nested. -/
import Derived.Test.YthdnaliahdohhaaWWords
import Derived.ChangeSlices
import Derived.ChangeArms
import Derived.Deep.Slices
import Derived.WideShapes
namespace Go.Proofs.Ythdnaliahdohhaa.Open
open Go.Proofs.YthdnaliahdohhaaW.PrintWords Go.ChangeShapes Go.WideShapes
/-- Whatever is read at type t is of the kind d, and 'ok'. -/
structure Opens {α : Type} (P : Program) (t : TypeId) (d : Kd α) (ok : α → Prop) : Prop where
  out : ∀ {H : Type} (enc : TypeId × Value → H) (w : World) (base : Nat) (spare : Nat → Bool) (held : Bool) (fuel : Nat) (cs : List Value) (x : DataW H × List MemPlace), DataW.trod enc P w base spare held fuel t cs = some x → ∃ a : α, d.K w a cs ∧ ok a
theorem opens_int {P : Program} {t : TypeId} {k : IntKind} (h : P.underlying t = some (.int k)) : Opens P t (Kd.int k) (fun n => (Lit.int k n).wf = true) := by
  refine ⟨?_⟩
  intro H enc w base spare held fuel cs x hx
  obtain ⟨n, rfl, _, hw⟩ := DataW.trod_int h hx
  exact ⟨n, rfl, hw⟩
theorem opens_bool {P : Program} {t : TypeId} (h : P.underlying t = some .bool) : Opens P t Kd.bool (fun _ => True) := by
  refine ⟨?_⟩
  intro H enc w base spare held fuel cs x hx
  obtain ⟨n, rfl, _⟩ := DataW.trod_bool h hx
  exact ⟨n, rfl, trivial⟩
theorem opens_string {P : Program} {t : TypeId} (h : P.underlying t = some .string) : Opens P t Kd.string (fun s => s.size ≤ maxLen) := by
  refine ⟨?_⟩
  intro H enc w base spare held fuel cs x hx
  obtain ⟨n, rfl, _, hw⟩ := DataW.trod_string h hx
  exact ⟨n, rfl, hw⟩
theorem opens_slice {α : Type} {P : Program} {t e : TypeId} {d : Kd α} {ok : α → Prop} (h : P.underlying t = some (.slice e)) (hs : P.cellsOf e = d.sz) (he : Opens P e d ok) : Opens P t (Kd.slice e d) (fun l => l.length ≤ maxLen ∧ ∀ a ∈ l, ok a) := by
  refine ⟨?_⟩
  intro H enc w base spare held fuel cs x hx
  rcases Go.Deep.open_slice h hx with ⟨rfl, _⟩ | ⟨a, len, cap, m, n, D, Pl, rfl, hb, hl, hm, hm2, _, hel⟩
  · exact ⟨[], ⟨none, 0, rfl, Nat.le_refl _, Kd.C_nil d w⟩, by simp [maxLen], by simp⟩
  · have hlm : len ≤ m := by rw [hm2]; split <;> omega
    have each : ∀ i, i < len → ∃ a' : α, ok a' ∧ ∃ c, c.length = d.sz ∧ d.K w a' c ∧ ∀ j u, c[j]? = some u → w.cell? (a.add (i * d.sz + j)) = some u := by
      intro i hi
      obtain ⟨c, hc, ht⟩ := hel i (by omega)
      obtain ⟨a', hK, hok⟩ := he.out enc w base spare held n c _ ht
      refine ⟨a', hok, c, d.K_len hK, hK, fun j u hu => ?_⟩
      have hj : j < c.length := (List.getElem?_eq_some_iff.1 hu).1
      have hc2 := (World.cells?_some hc).2.2 j (by rw [hs, ← d.K_len hK]; exact hj)
      rw [Go.Deep.add_add, hs] at hc2
      rw [hc2, hu]
    by_cases h0 : len = 0
    · subst h0
      refine ⟨[], ⟨some a, cap, rfl, by simp, rfl, by simp, fun h => absurd h (Nat.lt_irrefl 0)⟩, by simp [maxLen], by simp⟩
    · obtain ⟨a0, _⟩ := each 0 (by omega)
      haveI : Inhabited α := ⟨a0⟩
      obtain ⟨f, hf⟩ := Go.Deep.choose_lt (n := len) (p := fun i a' => ok a' ∧ ∃ c, c.length = d.sz ∧ d.K w a' c ∧ ∀ j u, c[j]? = some u → w.cell? (a.add (i * d.sz + j)) = some u) each
      refine ⟨(List.range len).map f, ⟨some a, cap, by simp, by simpa using hl, rfl, ?_, fun _ => ⟨a, rfl, fun j p hj => ?_⟩⟩, by simp; omega, ?_⟩
      · simp only [List.length_map, List.length_range]
        unfold maxLen at hm
        omega
      · simp only [List.getElem?_map, Option.map_eq_some_iff] at hj
        obtain ⟨i, hi, rfl⟩ := hj
        obtain ⟨hi1, hi2⟩ := List.getElem?_eq_some_iff.1 hi
        simp only [List.length_range] at hi1
        simp only [List.getElem_range] at hi2
        subst hi2
        exact (hf j hi1).2
      · intro x hx
        simp only [List.mem_map, List.mem_range] at hx
        obtain ⟨i, hi, rfl⟩ := hx
        exact (hf i hi).1
/-- The fields of a struct from a cell on. -/
structure OpensF {α : Type} (P : Program) (fs : List Field) (off : Nat) (d : Kd α) (ok : α → Prop) : Prop where
  out : ∀ {H : Type} (enc : TypeId × Value → H) (w : World) (base : Nat) (spare : Nat → Bool) (held : Bool) (n : Nat) (cs : List Value), cs.length = off + d.sz →
    (∀ (i : Nat) (f : Field), fs[i]? = some f → ∃ x, DataW.trod enc P w base spare held n f.type ((cs.drop f.offset).take (P.cellsOf f.type)) = some x) → ∃ a : α, d.K w a (cs.drop off) ∧ ok a
theorem opensF_last {α : Type} {P : Program} {f : Field} {off : Nat} {d : Kd α} {ok : α → Prop} (ho : f.offset = off) (hs : P.cellsOf f.type = d.sz) (h : Opens P f.type d ok) : OpensF P [f] off d ok := by
  refine ⟨?_⟩
  intro H enc w base spare held n cs hl hf
  obtain ⟨x, hx⟩ := hf 0 f rfl
  rw [ho, hs, List.take_of_length_le (by rw [List.length_drop]; omega)] at hx
  exact h.out enc w base spare held n _ x hx
theorem opensF_cons {α β : Type} {P : Program} {f : Field} {fs : List Field} {off : Nat} {d : Kd α} {d2 : Kd β} {ok : α → Prop} {ok2 : β → Prop} (ho : f.offset = off) (hs : P.cellsOf f.type = d.sz) (h : Opens P f.type d ok) (h2 : OpensF P fs (off + d.sz) d2 ok2) :
    OpensF P (f :: fs) off (Kd.pair d d2) (fun x => ok x.1 ∧ ok2 x.2) := by
  refine ⟨?_⟩
  intro H enc w base spare held n cs hl hf
  obtain ⟨x, hx⟩ := hf 0 f rfl
  rw [ho, hs] at hx
  obtain ⟨a, ha, oka⟩ := h.out enc w base spare held n _ x hx
  obtain ⟨b, hb, okb⟩ := h2.out enc w base spare held n cs (by rw [hl]; simp only [Kd.pair]; omega) (fun i f' hi => hf (i + 1) f' (by simpa using hi))
  refine ⟨(a, b), ⟨_, _, ?_, ha, hb⟩, oka, okb⟩
  rw [← List.drop_drop]
  exact (List.take_append_drop _ _).symm
theorem opens_struct {α β : Type} {P : Program} {t : TypeId} {fs : List Field} {d : Kd α} {ok : α → Prop} (f : β → α) (g : α → β) (hg : ∀ a, f (g a) = a) (ht : P.underlying t = some (.struct fs.toArray)) (hs : P.cellsOf t = d.sz) (h : OpensF P fs 0 d ok) :
    Opens P t (Kd.iso d f) (fun b => ok (f b)) := by
  refine ⟨?_⟩
  intro H enc w base spare held fuel cs x hx
  obtain ⟨xs, n, rfl, _, hl, hxl, hf⟩ := DataW.trod_struct ht hx
  obtain ⟨a, ha, oka⟩ := h.out enc w base spare held n cs (by rw [hl, hs]; omega) (fun i f' hi => by
    have h1 := hf i f' (by simpa using hi)
    have h2 : i < xs.length := by rw [hxl]; simpa using (List.getElem?_eq_some_iff.1 hi).1
    exact ⟨xs[i], by rw [h1, List.getElem?_eq_getElem h2]⟩)
  refine ⟨g a, ?_, ?_⟩
  · show d.K w (f (g a)) cs
    rw [hg]
    simpa using ha
  · show ok (f (g a))
    rw [hg]
    exact oka
theorem Opens.imp {α : Type} {P : Program} {t : TypeId} {d : Kd α} {ok ok' : α → Prop} (h : Opens P t d ok) (hi : ∀ a, ok a → ok' a) : Opens P t d ok' := by
  refine ⟨?_⟩
  intro H enc w base spare held fuel cs x hx
  obtain ⟨a, ha, o⟩ := h.out enc w base spare held fuel cs x hx
  exact ⟨a, ha, hi a o⟩
/-- A parameter that is one cell. -/
theorem open_cell {α : Type} {H : Type} {enc : TypeId × Value → H} {P : Program} {w : World} {base : Nat} {spare : Nat → Bool} {held : Bool} {t : TypeId} {v : Value} {dd : DataW H} {p : List MemPlace} {d : Kd α} {ok : α → Prop}
    (h : Opens P t d ok) (ht : DataW.Trod enc P w base spare held t v dd p) (hc : v.cells = #[v]) : ∃ a : α, d.K w a [v] ∧ ok a := by
  obtain ⟨fuel, hf⟩ := ht
  rw [hc] at hf
  exact h.out enc w base spare held fuel _ _ hf
/-- A parameter that is a struct by value. -/
theorem open_agg {α : Type} {H : Type} {enc : TypeId × Value → H} {P : Program} {w : World} {base b0 : Nat} {spare : Nat → Bool} {held : Bool} {r : Reach} {t : TypeId} {fs : Array Field} {v : Value} {dd : DataW H} {p : List MemPlace} {d : Kd α} {ok : α → Prop}
    (hs : P.underlying t = some (.struct fs)) (h : Opens P t d ok) (hv : Value.okWide P w r b0 t v) (ht : DataW.Trod enc P w base spare held t v dd p) : ∃ (a : α) (cs : List Value), v = .agg cs.toArray ∧ d.K w a cs ∧ ok a := by
  obtain ⟨cs, rfl, _⟩ := okWide_struct hs hv
  obtain ⟨fuel, hf⟩ := ht
  obtain ⟨a, ha, o⟩ := h.out enc w base spare held fuel _ _ hf
  exact ⟨a, cs.toList, by simp, ha, o⟩
end Go.Proofs.Ythdnaliahdohhaa.Open
