/- Maps, as lists of entries in the order in which they came: made, looked up, written, entries taken away, counted. Keys: whole numbers; structs of a name and a number. -/
import Derived.Test.YthdnaliahdohhaaWEqStruct
import Derived.Test.YthdnaliahdohhaaProg
import Derived.KernelRfl
import Derived.Maps.OwnSet
namespace Go.Proofs.Ythdnaliahdohhaa.Map
open Go.RowKit Go.Proofs.YthdnaliahdohhaaW.PrintWords
set_option linter.unusedVariables false
set_option linter.unusedSimpArgs false
set_option linter.unusedSectionVars false
theorem beq_bytes (a b : ByteArray) : (a == b) = decide (a = b) := by
  rw [beq_toListBytes, ByteArray.toList_eq, ByteArray.toList_eq]
  obtain ⟨⟨x⟩⟩ := a
  obtain ⟨⟨y⟩⟩ := b
  by_cases h : x = y
  · subst h; simp
  · have : ¬ (ByteArray.mk ⟨x⟩ = ByteArray.mk ⟨y⟩) := by intro e; injection e with e; injection e with e; exact h e
    rw [decide_eq_false this]; simpa using h
/-- What is asked of a key's type: how its values stand for the keys K. -/
structure KeyLaw (P : Program) (k : TypeId) {K : Type} [DecidableEq K] (enc : K → Value) : Prop where
  check : ∀ (w : World) (em : Bool) (a : K), (Instr.checkKey em 10000 k (enc a)).run P w = .ok () w
  stays : ∀ (w : World) (a : K), (Instr.keyThatStays (enc a) (enc a)).run P w = .ok (enc a) w
  kind : (∃ d, P.underlying k = some d ∧ ∀ a b : K, Instr.sameNow d (enc a) (enc b) = some (decide (a = b))) ∨
    ((∃ d, P.underlying k = some d ∧ ∀ a b : K, Instr.sameNow d (enc a) (enc b) = none) ∧ ∀ (w : World) (a b : K), (Op.equal k (enc a) (enc b)).run P w = .ok (decide (a = b)) w)

section
variable {K V : Type} [DecidableEq K]
/-- where a key stands -/
def posK (a : K) : List (K × V) → Option (Nat × V)
  | [] => none
  | p :: l => if a = p.1 then some (0, p.2) else (posK a l).map fun q => (q.1 + 1, q.2)
def lookK (a : K) : List (K × V) → Option V
  | [] => none
  | p :: l => if a = p.1 then some p.2 else lookK a l
def putK (a : K) (v : V) : List (K × V) → List (K × V)
  | [] => [(a, v)]
  | p :: l => if a = p.1 then (a, v) :: l else p :: putK a v l
def delK (a : K) : List (K × V) → List (K × V)
  | [] => []
  | p :: l => if a = p.1 then l else p :: delK a l
theorem pos_look (a : K) : ∀ l : List (K × V), (posK a l).map (·.2) = lookK a l
  | [] => rfl
  | p :: l => by
    unfold posK lookK
    split
    · rfl
    · rw [← pos_look a l]; cases posK a l <;> rfl
theorem put_none (a : K) (v : V) : ∀ l : List (K × V), posK a l = none → putK a v l = l ++ [(a, v)]
  | [], _ => rfl
  | p :: l, h => by
    unfold posK at h
    split at h
    · simp at h
    · next hne =>
      unfold putK
      rw [if_neg hne, put_none a v l (by simpa using h)]
      rfl
theorem put_some (a : K) (v : V) : ∀ (l : List (K × V)) (j : Nat) (u : V), posK a l = some (j, u) → putK a v l = l.set j (a, v) ∧ j < l.length ∧ l[j]? = some (a, u) ∧ delK a l = l.eraseIdx j
  | [], _, _, h => by simp [posK] at h
  | p :: l, j, u, h => by
    unfold posK at h
    split at h
    · next he =>
      simp at h
      obtain ⟨rfl, rfl⟩ := h
      refine ⟨by unfold putK; rw [if_pos he]; rfl, by simp, ?_, by unfold delK; rw [if_pos he]; rfl⟩
      rw [he]; rfl
    · next hne =>
      obtain ⟨q, hq, he⟩ := Option.map_eq_some_iff.1 h
      cases he
      obtain ⟨h1, h2, h3, h4⟩ := put_some a v l q.1 q.2 hq
      refine ⟨by unfold putK; rw [if_neg hne, h1]; rfl, by simp; omega, by simpa using h3, by unfold delK; rw [if_neg hne, h4]; rfl⟩
theorem del_none (a : K) : ∀ l : List (K × V), posK a l = none → delK a l = l
  | [], _ => rfl
  | p :: l, h => by
    unfold posK at h
    split at h
    · simp at h
    · next hne =>
      unfold delK
      rw [if_neg hne, del_none a l (by simpa using h)]
theorem look_put (a b : K) (v : V) : ∀ l : List (K × V), lookK b (putK a v l) = if b = a then some v else lookK b l
  | [] => by simp [putK, lookK]
  | p :: l => by
    unfold putK
    by_cases h : a = p.1
    · rw [if_pos h]
      unfold lookK
      by_cases h2 : b = a
      · simp [h2]
      · simp only [if_neg h2]; rw [if_neg (h ▸ h2)]
    · rw [if_neg h]
      unfold lookK
      by_cases h2 : b = p.1
      · rw [if_pos h2, if_neg (by intro h3; exact h (h3 ▸ h2)), if_pos h2]
      · rw [if_neg h2, if_neg h2, look_put a b v l]
theorem look_del_other (a b : K) (h0 : b ≠ a) : ∀ l : List (K × V), lookK b (delK a l) = lookK b l
  | [] => by simp [delK, lookK]
  | p :: l => by
    unfold delK
    by_cases h : a = p.1
    · rw [if_pos h]
      show _ = if b = p.1 then _ else _
      rw [if_neg (h ▸ h0)]
    · rw [if_neg h]
      unfold lookK
      rw [look_del_other a b h0 l]
/-- no key stands twice -/
def ApartK (l : List (K × V)) : Prop := l.Pairwise (fun p q => p.1 ≠ q.1)
theorem look_none_iff (a : K) : ∀ l : List (K × V), lookK a l = none ↔ ∀ p ∈ l, a ≠ p.1
  | [] => by simp [lookK]
  | p :: l => by
    unfold lookK
    by_cases h : a = p.1
    · simp [h]
    · simp [h, look_none_iff a l]
theorem look_del_same (a : K) : ∀ l : List (K × V), ApartK l → lookK a (delK a l) = none
  | [], _ => by simp [delK, lookK]
  | p :: l, h => by
    obtain ⟨h1, h2⟩ := List.pairwise_cons.1 h
    unfold delK
    by_cases he : a = p.1
    · rw [if_pos he, look_none_iff]
      intro q hq; rw [he]; exact h1 q hq
    · rw [if_neg he]; unfold lookK; rw [if_neg he]; exact look_del_same a l h2
theorem put_keys (a : K) (v : V) : ∀ (l : List (K × V)) p, p ∈ putK a v l → p.1 = a ∨ p ∈ l
  | [], p, h => by simp [putK] at h; left; rw [h]
  | q :: l, p, h => by
    unfold putK at h
    split at h
    · rcases List.mem_cons.1 h with rfl | h
      · exact Or.inl rfl
      · exact Or.inr (List.mem_cons_of_mem _ h)
    · rcases List.mem_cons.1 h with rfl | h
      · exact Or.inr (List.mem_cons_self ..)
      · rcases put_keys a v l p h with h | h
        · exact Or.inl h
        · exact Or.inr (List.mem_cons_of_mem _ h)
theorem put_apart (a : K) (v : V) : ∀ (l : List (K × V)), ApartK l → ApartK (putK a v l)
  | [], _ => by simp [putK, ApartK]
  | q :: l, h => by
    obtain ⟨h1, h2⟩ := List.pairwise_cons.1 h
    unfold putK
    split
    · next he => exact List.pairwise_cons.2 ⟨fun p hp => by rw [he]; exact h1 p hp, h2⟩
    · next he =>
      refine List.pairwise_cons.2 ⟨fun p hp => ?_, put_apart a v l h2⟩
      rcases put_keys a v l p hp with h3 | h3
      · rw [h3]; exact fun h => he h.symm
      · exact h1 p h3
theorem del_sub (a : K) : ∀ (l : List (K × V)) p, p ∈ delK a l → p ∈ l
  | [], p, h => by simp [delK] at h
  | q :: l, p, h => by
    unfold delK at h
    split at h
    · exact List.mem_cons_of_mem _ h
    · rcases List.mem_cons.1 h with rfl | h
      · exact List.mem_cons_self ..
      · exact List.mem_cons_of_mem _ (del_sub a l p h)
theorem del_apart (a : K) : ∀ (l : List (K × V)), ApartK l → ApartK (delK a l)
  | [], _ => by simp [delK, ApartK]
  | q :: l, h => by
    obtain ⟨h1, h2⟩ := List.pairwise_cons.1 h
    unfold delK
    split
    · exact h2
    · exact List.pairwise_cons.2 ⟨fun p hp => h1 p (del_sub a l p hp), del_apart a l h2⟩
theorem put_length (a : K) (v : V) : ∀ (l : List (K × V)), (putK a v l).length = if (lookK a l).isSome then l.length else l.length + 1
  | [] => rfl
  | q :: l => by
    unfold putK lookK
    by_cases h : a = q.1
    · rw [if_pos h, if_pos h]; simp
    · rw [if_neg h, if_neg h]
      simp only [List.length_cons, put_length a v l]
      split <;> rfl
end

section
variable {P : Program} {k e t : TypeId} {K V : Type} [DecidableEq K] {encK : K → Value} {encV : V → Value} {w : World} {b : Nat} {L : List (K × V)}
/-- BLOCK b OF w IS A MAP OF THE ENTRIES L, in the order in which they came. -/
def Is (encK : K → Value) (encV : V → Value) (w : World) (b : Nat) (L : List (K × V)) : Prop :=
  ∃ es clock, w.heap[b]? = some (.map es clock) ∧ es.toList.map (fun x => (x.key, x.val)) = L.map (fun p => (encK p.1, encV p.2))
theorem Is.lt (h : Is encK encV w b L) : b < w.heap.size := by
  obtain ⟨es, clock, hb, _⟩ := h
  exact (Array.getElem?_eq_some_iff.1 hb).1
theorem Is.kept {w' : World} (h : Is encK encV w b L) (hk : w'.heap[b]? = w.heap[b]?) : Is encK encV w' b L := by
  obtain ⟨es, clock, hb, hL⟩ := h
  exact ⟨es, clock, hk.trans hb, hL⟩
theorem Is.made (encK : K → Value) (encV : V → Value) (w : World) : Is encK encV (w.alloc (.map #[] 0)) w.heap.size [] :=
  ⟨#[], 0, (MapKept.heap_alloc w _).1, by simp⟩

theorem findNow_is {d : TypeDesc} (hd : ∀ a b : K, Instr.sameNow d (encK a) (encK b) = some (decide (a = b))) (a : K) :
    ∀ (es : List MapEntry) (L : List (K × V)) (i : Nat), es.map (fun x => (x.key, x.val)) = L.map (fun p => (encK p.1, encV p.2)) →
      Instr.findNow d (encK a) es i = some ((posK a L).map fun q => (q.1 + i, encV q.2))
  | [], L, i, h => by
    cases L with
    | nil => simp [Instr.findNow, posK]
    | cons p l => simp at h
  | x :: es, [], i, h => by simp at h
  | x :: es, p :: l, i, h => by
    simp only [List.map_cons, List.cons.injEq, Prod.mk.injEq] at h
    obtain ⟨⟨h1, h2⟩, h3⟩ := h
    unfold Instr.findNow posK
    rw [h1, hd, h2]
    by_cases he : a = p.1
    · simp [he]
    · simp only [decide_eq_false he, if_neg he]
      rw [findNow_is hd a es l (i + 1) h3]
      cases posK a l <;> simp; omega
theorem findAsking_is (hq : ∀ (w : World) (a b : K), (Op.equal k (encK a) (encK b)).run P w = .ok (decide (a = b)) w) (a : K) :
    ∀ (es : List MapEntry) (L : List (K × V)) (i : Nat), es.map (fun x => (x.key, x.val)) = L.map (fun p => (encK p.1, encV p.2)) →
      (Instr.findAsking k (encK a) es i).run P w = .ok ((posK a L).map fun q => (q.1 + i, encV q.2)) w
  | [], L, i, h => by
    cases L with
    | nil => simp [Instr.findAsking, posK]
    | cons p l => simp at h
  | x :: es, [], i, h => by simp at h
  | x :: es, p :: l, i, h => by
    simp only [List.map_cons, List.cons.injEq, Prod.mk.injEq] at h
    obtain ⟨⟨h1, h2⟩, h3⟩ := h
    unfold Instr.findAsking posK
    simp only [Sem.run_bind, h1, hq, h2, Result.andThen_ok]
    by_cases he : a = p.1
    · simp [he]
    · simp only [decide_eq_false he, if_neg he, Bool.false_eq_true, if_false]
      rw [findAsking_is hq a es l (i + 1) h3]
      cases posK a l <;> simp; omega
theorem findKey_is (hk : KeyLaw P k encK) (a : K) {es : List MapEntry} (h : es.map (fun x => (x.key, x.val)) = L.map (fun p => (encK p.1, encV p.2))) :
    (Instr.findKey k (encK a) es).run P w = .ok ((posK a L).map fun q => (q.1, encV q.2)) w := by
  rcases hk.kind with ⟨d, hd, hs⟩ | ⟨⟨d, hd, hs⟩, hq⟩
  · have := findNow_is hs a es L 0 h
    simp [Instr.findKey, run_underlying hd, Result.andThen, this]
  · have hn := findAsking_is (w := w) (P := P) hq a es L 0 h
    simp only [Nat.add_zero] at hn
    cases es with
    | nil =>
      cases L with
      | nil => simp [Instr.findKey, run_underlying hd, Result.andThen, Instr.findNow, posK]
      | cons p l => simp at h
    | cons x es =>
      cases L with
      | nil => simp at h
      | cons p l =>
        have hx : x.key = encK p.1 := by simp at h; exact h.1.1
        have : Instr.findNow d (encK a) (x :: es) 0 = none := by unfold Instr.findNow; rw [hx, hs]
        simp only [Instr.findKey, Sem.run_bind, run_underlying hd, Result.andThen_ok, this]
        exact hn
/-- 'm[k]', 'v, ok := m[k]'. -/
theorem Is.lookup (h : Is encK encV w b L) (hk : KeyLaw P k encK) (ht : P.underlying t = some (.map k e)) {z : Value} (hz : (zeroValue e).run P w = .ok z w) (a : K) (c : Bool) :
    (Instr.lookup t (.map (some b)) (encK a) c).run P w = .ok (if c then .tuple #[((lookK a L).map encV).getD z, .bool (lookK a L).isSome] else ((lookK a L).map encV).getD z) w := by
  obtain ⟨es, clock, hb, hL⟩ := h
  have hf := findKey_is (w := w) hk a hL
  simp only [Instr.lookup, Sem.run_bind, run_underlying ht, Result.andThen_ok, MapKept.run_getObj_map hb, Sem.run_pure, hk.check, hf, ← pos_look]
  cases posK a L <;> cases c <;> simp [hz, Result.andThen]
/-- 'm[k] = v'. -/
theorem Is.update (h : Is encK encV w b L) (hk : KeyLaw P k encK) (ht : P.underlying t = some (.map k e)) (a : K) (v : V) :
    ∃ w', (Instr.mapUpdate t (.map (some b)) (encK a) (encV v)).run P w = .ok () w' ∧ Is encK encV w' b (putK a v L) ∧ w.mapTurned w' b := by
  obtain ⟨es, clock, hb, hL⟩ := h
  have hf := findKey_is (w := w) hk a hL
  cases hp : posK a L with
  | none =>
    rw [hp] at hf
    refine ⟨ChangeMaps.setBlock w b (.map (es.push { key := encK a, val := encV v, born := clock }) (clock + 1)), ?_, ?_, ⟨es, clock, _, _, hb, rfl⟩⟩
    · simp only [Instr.mapUpdate, Sem.run_bind, run_underlying ht, Result.andThen_ok, MapKept.run_getObj_map hb, Sem.run_pure, hk.check, hf, Option.map_none]
      simp [MapKept.run_setObj_map _ hb, ChangeMaps.setBlock]
    · refine ⟨_, _, ChangeMaps.heap_setBlock_same hb _, ?_⟩
      rw [put_none a v L hp, Array.toList_push, List.map_append, List.map_append, hL]
      rfl
  | some q =>
    obtain ⟨j, u⟩ := q
    rw [hp] at hf
    obtain ⟨h1, h2, h3, _⟩ := put_some a v L j u hp
    have hlen : es.toList.length = L.length := by simpa using congrArg List.length hL
    have hj : j < es.size := by rw [← Array.length_toList, hlen]; exact h2
    have hkey : es[j]?.map (·.key) = some (encK a) := by
      have := congrArg (fun l => l[j]?) hL
      simp only [List.getElem?_map, h3, Option.map_some] at this
      rw [Array.getElem?_toList] at this
      cases he : es[j]? with
      | none => rw [he] at this; simp at this
      | some x => rw [he] at this; simp at this; simp [this.1]
    refine ⟨ChangeMaps.setBlock w b (.map (es.modify j fun x => { x with key := encK a, val := encV v }) clock), ?_, ?_, ⟨es, clock, _, _, hb, rfl⟩⟩
    · simp only [Instr.mapUpdate, Sem.run_bind, run_underlying ht, Result.andThen_ok, MapKept.run_getObj_map hb, Sem.run_pure, hk.check, hf, Option.map_some, hkey, Option.getD_some, hk.stays]
      simp [MapKept.run_setObj_map _ hb, ChangeMaps.setBlock]
    · refine ⟨_, _, ChangeMaps.heap_setBlock_same hb _, ?_⟩
      rw [h1, Array.toList_modify]
      apply List.ext_getElem?
      intro i
      have hi := congrArg (fun l => l[i]?) hL
      simp only [List.getElem?_map, List.getElem?_modify, List.getElem?_set] at hi ⊢
      by_cases hij : j = i
      · subst hij
        have : es.toList[j]? = some es[j] := by simp [hj]
        simp [this, h2]
      · simp only [if_neg hij]
        simpa using hi
/-- 'delete(m, k)'. -/
theorem Is.drop (h : Is encK encV w b L) (hk : KeyLaw P k encK) (ht : P.underlying t = some (.map k e)) (a : K) (ty : TypeId) :
    ∃ w', (Builtin.delete_ #[t, k] ty #[.map (some b), encK a]).run P w = .ok (.tuple #[]) w' ∧ Is encK encV w' b (delK a L) ∧ w.mapTurned w' b := by
  obtain ⟨es, clock, hb, hL⟩ := h
  have hf := findKey_is (w := w) hk a hL
  cases hp : posK a L with
  | none =>
    rw [hp] at hf
    refine ⟨ChangeMaps.setBlock w b (.map es clock), ?_, ?_, ⟨es, clock, _, _, hb, rfl⟩⟩
    · simp [Builtin.delete_, run_underlying ht, MapKept.run_getObj_map hb, hk.check, hf, MapKept.run_setObj_map _ hb, Result.andThen, ChangeMaps.setBlock]
    · exact ⟨_, _, ChangeMaps.heap_setBlock_same hb _, by rw [del_none a L hp]; exact hL⟩
  | some q =>
    obtain ⟨j, u⟩ := q
    rw [hp] at hf
    obtain ⟨_, h2, h3, h4⟩ := put_some a u L j u hp
    have hlen : es.toList.length = L.length := by simpa using congrArg List.length hL
    have hj : j < es.size := by rw [← Array.length_toList, hlen]; exact h2
    refine ⟨ChangeMaps.setBlock w b (.map (es.eraseIdxIfInBounds j) clock), ?_, ?_, ⟨es, clock, _, _, hb, rfl⟩⟩
    · simp [Builtin.delete_, run_underlying ht, MapKept.run_getObj_map hb, hk.check, hf, MapKept.run_setObj_map _ hb, Result.andThen, ChangeMaps.setBlock]
    · refine ⟨_, _, ChangeMaps.heap_setBlock_same hb _, ?_⟩
      have : (es.eraseIdxIfInBounds j).toList = es.toList.eraseIdx j := by
        rw [Array.eraseIdxIfInBounds]; simp [hj]
      rw [h4, this, ChangeMaps.map_eraseIdx, ChangeMaps.map_eraseIdx, hL]
/-- 'len(m)'. -/
theorem Is.len (h : Is encK encV w b L) (ht : P.underlying t = some (.map k e)) (ty : TypeId) : (Builtin.len_ #[t] ty #[.map (some b)]).run P w = .ok (.int .i64 L.length) w := by
  obtain ⟨es, clock, hb, hL⟩ := h
  have hlen : es.size = L.length := by simpa using congrArg List.length hL
  rw [← hlen]
  simp [Builtin.len_, run_underlying ht, MapKept.run_getObj_map hb, goInt, Result.andThen]
end

/-- A value that is built, of a type t, and is known ahead: '((with_reducible refine wp_build T V ?_ ?_); kernel_rfl)'. -/
theorem wp_build {P : Program} {w : World} {ops : Array Oper} {rest : List Oper} {a : Act} {Q : Exit → Act → World → Prop} (t : TypeId) (v : Value) {dst : Option Tmp} {parts : Array (Nat × Operand)} {ty : TypeId} {ps : String} {after : Array Edge}
    (hrun : (execOp a.eval ⟨dst, .build t parts, ty, ps, after, none⟩).run P w = .ok (.value v) w) (hK : wpList P ops Q rest (a.put dst v) w) : wpList P ops Q (⟨dst, .build t parts, ty, ps, after, none⟩ :: rest) a w := by
  refine wpList_plain rfl fun K' hK' => ?_
  unfold Oper.wp
  rw [hrun, Oper.upon_value]
  exact hK' _ _ hK
theorem wp_save {P : Program} {w : World} {ops : Array Oper} {rest : List Oper} {a : Act} {Q : Exit → Act → World → Prop} (t : TypeId) {p x : Value} {w' : World} {dst : Option Tmp} {po xo : Operand} {ty : TypeId} {ps : String} {after : Array Edge}
    (hrun : (Instr.storeAt t p x).run P w = .ok () w') (hp : a.eval po = p) (hx : a.eval xo = x) (hK : wpList P ops Q rest (a.put dst undef) w') : wpList P ops Q (⟨dst, .store t po xo, ty, ps, after, none⟩ :: rest) a w := by
  refine wpList_plain rfl fun K' hK' => ?_
  unfold Oper.wp
  simp [execOp, hp, hx, hrun, Result.andThen]
  exact hK' _ _ hK

section
variable {P : Program} {K V : Type} [DecidableEq K] {encK : K → Value} {encV : V → Value} {L : List (K × V)} {b : Nat} {ops : Array Oper} {rest : List Oper} {o : Oper} {a : Act} {Q : Exit → Act → World → Prop}
/-- 'm[k]' at the operation: '(at_lookup; refine wp_look _ rfl _ _ T rfl K E law (by kernel_rfl) (zeroE _) rfl hmap KEY rfl R (by ..) ?_)'. -/
theorem wp_look (w : World) (hg : o.guard = none) (m x : Operand) (t : TypeId) (hop : o.op = Op.lookup t m x false) (k e : TypeId) (hk : KeyLaw P k encK) (ht : P.underlying t = some (.map k e)) {z : Value} (hz : (zeroValue e).run P w = .ok z w)
    (hm : a.eval m = .map (some b)) (h : Is encK encV w b L) (key : K) (hx : a.eval x = encK key) (r : Value) (hr : ((lookK key L).map encV).getD z = r)
    (hK : wpList P ops Q rest (a.put o.dst r) w) : wpList P ops Q (o :: rest) a w := by
  refine wpList_plain hg fun K' hK' => ?_
  have hrun := h.lookup hk ht hz key false
  simp only [Bool.false_eq_true, if_false, hr] at hrun
  unfold Oper.wp
  simp [execOp, hop, hm, hx, hrun, Result.andThen]
  exact hK' _ _ hK
theorem wp_look_ok (w : World) (hg : o.guard = none) (m x : Operand) (t : TypeId) (hop : o.op = Op.lookup t m x true) (k e : TypeId) (hk : KeyLaw P k encK) (ht : P.underlying t = some (.map k e)) {z : Value} (hz : (zeroValue e).run P w = .ok z w)
    (hm : a.eval m = .map (some b)) (h : Is encK encV w b L) (key : K) (hx : a.eval x = encK key) (r : Value) (hr : ((lookK key L).map encV).getD z = r) (ok : Bool) (hok : (lookK key L).isSome = ok)
    (hK : wpList P ops Q rest (a.put o.dst (.tuple #[r, .bool ok])) w) : wpList P ops Q (o :: rest) a w := by
  refine wpList_plain hg fun K' hK' => ?_
  have hrun := h.lookup hk ht hz key true
  simp only [if_true, hr, hok] at hrun
  unfold Oper.wp
  simp [execOp, hop, hm, hx, hrun, Result.andThen]
  exact hK' _ _ hK
theorem wp_store (w : World) (hg : o.guard = none) (m x v : Operand) (t : TypeId) (hop : o.op = Op.mapUpdate t m x v) (k e : TypeId) (hk : KeyLaw P k encK) (ht : P.underlying t = some (.map k e))
    (hm : a.eval m = .map (some b)) (h : Is encK encV w b L) (key : K) (hx : a.eval x = encK key) (val : V) (hv : a.eval v = encV val)
    (hK : ∀ w', Is encK encV w' b (putK key val L) → w.mapTurned w' b → wpList P ops Q rest (a.put o.dst undef) w') : wpList P ops Q (o :: rest) a w := by
  refine wpList_plain hg fun K' hK' => ?_
  obtain ⟨w', hrun, r1, r2⟩ := h.update hk ht key val
  unfold Oper.wp
  simp [execOp, hop, hm, hx, hv, hrun, Result.andThen]
  exact hK' _ _ (hK w' r1 r2)
theorem wp_delete (w : World) (hg : o.guard = none) (m x : Operand) (t k : TypeId) (hop : o.op = Op.call { callee := Callee.builtin Builtin.delete, args := #[m, x], argTypes := #[t, k] }) (e : TypeId) (hk : KeyLaw P k encK) (ht : P.underlying t = some (.map k e))
    (hm : a.eval m = .map (some b)) (h : Is encK encV w b L) (key : K) (hx : a.eval x = encK key)
    (hK : ∀ w', Is encK encV w' b (delK key L) → w.mapTurned w' b → wpList P ops Q rest (a.put o.dst (.tuple #[])) w') : wpList P ops Q (o :: rest) a w := by
  refine wpList_plain hg fun K' hK' => ?_
  obtain ⟨w', hrun, r1, r2⟩ := h.drop hk ht key o.type
  unfold Oper.wp
  simp [execOp, hop, resolve, invoke, builtin, hm, hx, hrun, Result.andThen]
  exact hK' _ _ (hK w' r1 r2)
theorem wp_len (w : World) (hg : o.guard = none) (m : Operand) (t : TypeId) (hop : o.op = Op.call { callee := Callee.builtin Builtin.len, args := #[m], argTypes := #[t] }) (k e : TypeId) (ht : P.underlying t = some (.map k e))
    (hm : a.eval m = .map (some b)) (h : Is encK encV w b L) (hK : wpList P ops Q rest (a.put o.dst (.int .i64 L.length)) w) : wpList P ops Q (o :: rest) a w := by
  refine wpList_plain hg fun K' hK' => ?_
  unfold Oper.wp
  simp [execOp, hop, resolve, invoke, builtin, hm, h.len ht o.type, Result.andThen]
  exact hK' _ _ hK
end

theorem intLaw {P : Program} {k : TypeId} (hk : P.underlying k = some (.int .i64)) : KeyLaw P k (fun n : Int => Value.int .i64 n) where
  check w em a := MapKept.run_checkKey hk (by trivial) em 9999
  stays w a := by simp [Instr.keyThatStays, Instr.sameBits]
  kind := Or.inl ⟨_, hk, fun a b => by simp [Instr.sameNow]; rfl⟩
def encSI (p : ByteArray × Int) : Value := .agg #[.string p.1, .int .i64 p.2]
theorem structLaw {k : TypeId} (hs : (match Try.prog.underlying k with | some (.struct _) => true | _ => false) = true)
    (hf : (Try.prog.fieldsOf k).toList.map (fun f => (f.name == "_", f.type, f.offset)) = [(false, 9, 0), (false, 3, 1)]) (hh : Try.prog.stoodInHeld k = false)
    (hc : ∀ (em : Bool) (w : World) (s : ByteArray) (n : Int), (Instr.checkKey em 10000 k (.agg #[.string s, .int .i64 n])).run Try.prog w = .ok () w) : KeyLaw Try.prog k encSI where
  check w em a := hc em w a.1 a.2
  stays w a := by simp [Instr.keyThatStays, Instr.sameBits, encSI, beq_bytes]
  kind := by
    have hu : Try.prog.underlying k = some (.struct (Try.prog.fieldsOf k)) := by
      cases h : Try.prog.underlying k with
      | none => rw [h] at hs; simp at hs
      | some d => cases d <;> simp [h] at hs; simp [Program.fieldsOf, h]
    refine Or.inr ⟨⟨_, hu, fun a b => rfl⟩, fun w a b => ?_⟩
    match hl : (Try.prog.fieldsOf k).toList with
    | [] => rw [hl] at hf; simp at hf
    | [_] => rw [hl] at hf; simp at hf
    | _ :: _ :: _ :: _ => rw [hl] at hf; simp at hf
    | [f, g] =>
      rw [hl] at hf
      simp only [List.map_cons, List.map_nil, List.cons.injEq, Prod.mk.injEq, and_true] at hf
      obtain ⟨⟨n1, t1, o1⟩, n2, t2, o2⟩ := hf
      have h0 : (Op.equalIn 9999 9 (.string a.1) (.string b.1)).run Try.prog w = .ok (a.1 == b.1) w := by kernel_rfl
      have h1 : (Op.equalIn 9999 3 (.int .i64 a.2) (.int .i64 b.2)).run Try.prog w = .ok (a.2 == b.2) w := by kernel_rfl
      have he : decide (a = b) = (a.1 == b.1 && a.2 == b.2) := by
        rw [Bool.eq_iff_iff, beq_bytes]
        simp [Prod.ext_iff]
      rw [he]
      refine eqA_of (P := Try.prog) (d := 9999) hu hh ?_
      rw [hl]
      refine eqf_cons (r := a.1 == b.1) (s := a.2 == b.2) n1 (by rw [t1, o1]; kernel_rfl) (by rw [t1, o1]; kernel_rfl) (by rw [t1]; exact h0) (eqf_last n2 (by rw [t2, o2]; kernel_rfl) (by rw [t2, o2]; kernel_rfl) (by rw [t2]; exact h1))
end Go.Proofs.Ythdnaliahdohhaa.Map
