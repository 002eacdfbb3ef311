/-
  Maps whose keys are texts, known whole: an entry more, a look. No program here.
-/
import Derived.Test.YtdbggicpcbecdaaGreatDoorDigits
import Derived.WideMake
namespace Go.Proofs.YtdbggicpcbecdaaGreatDoor
open Go.RowKit Own
set_option linter.unusedVariables false
set_option linter.unusedSimpArgs false

/-- Block b is a map of these entries. -/
def MapAt (w : World) (b : Nat) (l : List (List UInt8 × Value)) : Prop :=
  ∃ es clock, w.heap[b]? = some (.map es clock) ∧ es.toList.map (fun e => (e.key, e.val)) = l.map fun p => (Value.string (str p.1), p.2)
def lookL (l : List (List UInt8 × Value)) (k : List UInt8) : Option Value := (l.find? fun p => p.1 == k).map (·.2)
theorem MapAt.new (w : World) : MapAt (w.alloc (.map #[] 0)) w.heap.size [] := ⟨#[], 0, heap_alloc_new w _, rfl⟩
theorem MapAt.below {w w' : World} {b : Nat} {l : List (List UInt8 × Value)} (h : MapAt w b l) (hb : Below w.heap.size w w') : MapAt w' b l := by
  obtain ⟨es, clock, h1, h2⟩ := h
  exact ⟨es, clock, (hb.block b (lt_of_block h1)).trans h1, h2⟩
theorem MapAt.lt {w : World} {b : Nat} {l : List (List UInt8 × Value)} (h : MapAt w b l) : b < w.heap.size := by
  obtain ⟨es, clock, h1, _⟩ := h
  exact lt_of_block h1
theorem find_look (k : List UInt8) : ∀ (l : List (List UInt8 × Value)) (es : List MapEntry) (i : Nat), es.map (fun e => (e.key, e.val)) = l.map (fun p => (Value.string (str p.1), p.2)) →
    ∃ a, Instr.findNow .string (.string (str k)) es i = some a ∧ a.map (·.2) = lookL l k
  | [], [], i, _ => ⟨none, rfl, rfl⟩
  | [], e :: es, i, h => by simp at h
  | p :: l, [], i, h => by simp at h
  | p :: l, e :: es, i, h => by
    simp only [List.map_cons, List.cons.injEq, Prod.mk.injEq] at h
    obtain ⟨⟨hk, hv⟩, h⟩ := h
    have hs : Instr.sameNow .string (.string (str k)) e.key = some (str k == str p.1) := by rw [hk]; rfl
    by_cases he : p.1 = k
    · refine ⟨some (i, e.val), ?_, ?_⟩
      · have : (str k == str p.1) = true := by rw [he]; exact (MapKept.bytes_beq _ _).2 rfl
        simp [Instr.findNow, hs, this]
      · unfold lookL
        rw [List.find?_cons_of_pos (by simpa using he), hv]; rfl
    · have hn : (str k == str p.1) = false := by
        rw [Bool.eq_false_iff]
        intro h2
        exact he (str_inj ((MapKept.bytes_beq _ _).1 h2)).symm
      obtain ⟨a, h1, h2⟩ := find_look k l es (i + 1) h
      refine ⟨a, by simp [Instr.findNow, hs, hn, h1], ?_⟩
      rw [h2]
      unfold lookL
      rw [List.find?_cons_of_neg (by simpa using he)]

section
variable {P : Program} {mt kt et : TypeId}
/-- v, ok := m[k]. -/
theorem run_look_ok {w : World} {b : Nat} {l : List (List UInt8 × Value)} (hm : P.underlying mt = some (.map kt et)) (hk : P.underlying kt = some .string) (h : MapAt w b l) (k : List UInt8) {z : Value} (hz : (zeroValue et).run P w = .ok z w) :
    (Instr.lookup mt (.map (some b)) (.string (str k)) true).run P w = .ok (.tuple #[(lookL l k).getD z, .bool (lookL l k).isSome]) w := by
  obtain ⟨es, clock, hb, hes⟩ := h
  obtain ⟨a, h1, h2⟩ := find_look k l es.toList 0 hes
  have hc := fun e => MapKept.run_checkKey (P := P) (w := w) (k := .string (str k)) hk (by simp [MapKept.IsKey]) e 9999
  cases a with
  | none =>
    rw [← h2]
    simp [Instr.lookup, run_underlying hm, MapKept.run_getObj_map hb, hc, MapKept.run_findKey hk h1, hz, Result.andThen]
  | some q =>
    rw [← h2]
    simp [Instr.lookup, run_underlying hm, MapKept.run_getObj_map hb, hc, MapKept.run_findKey hk h1, Result.andThen]
/-- m[k]. -/
theorem run_look {w : World} {b : Nat} {l : List (List UInt8 × Value)} (hm : P.underlying mt = some (.map kt et)) (hk : P.underlying kt = some .string) (h : MapAt w b l) (k : List UInt8) {z : Value} (hz : (zeroValue et).run P w = .ok z w) :
    (Instr.lookup mt (.map (some b)) (.string (str k)) false).run P w = .ok ((lookL l k).getD z) w := by
  obtain ⟨es, clock, hb, hes⟩ := h
  obtain ⟨a, h1, h2⟩ := find_look k l es.toList 0 hes
  have hc := fun e => MapKept.run_checkKey (P := P) (w := w) (k := .string (str k)) hk (by simp [MapKept.IsKey]) e 9999
  cases a with
  | none =>
    rw [← h2]
    simp [Instr.lookup, run_underlying hm, MapKept.run_getObj_map hb, hc, MapKept.run_findKey hk h1, hz, Result.andThen]
  | some q =>
    rw [← h2]
    simp [Instr.lookup, run_underlying hm, MapKept.run_getObj_map hb, hc, MapKept.run_findKey hk h1, Result.andThen]
theorem run_put {w : World} {b : Nat} {l : List (List UInt8 × Value)} (hm : P.underlying mt = some (.map kt et)) (hk : P.underlying kt = some .string) (h : MapAt w b l) (k : List UInt8) (v : Value) (hno : lookL l k = none) :
    ∃ w', (Instr.mapUpdate mt (.map (some b)) (.string (str k)) v).run P w = .ok () w' ∧ MapAt w' b (l ++ [(k, v)]) ∧ Below b w w' ∧ w'.heap.size = w.heap.size := by
  obtain ⟨es, clock, hb, hes⟩ := h
  obtain ⟨a, h1, h2⟩ := find_look k l es.toList 0 hes
  have hc := fun e => MapKept.run_checkKey (P := P) (w := w) (k := .string (str k)) hk (by simp [MapKept.IsKey]) e 9999
  cases a with
  | some q => rw [hno] at h2; cases h2
  | none =>
    refine ⟨{ w with heap := w.heap.setIfInBounds b (.map (es.push { key := .string (str k), val := v, born := clock }) (clock + 1)) }, ?_, ⟨_, _, (MapKept.heap_set hb).1, ?_⟩, ⟨rfl, rfl, rfl, ?_, ?_⟩, ?_⟩
    · simp [Instr.mapUpdate, run_underlying hm, MapKept.run_getObj_map hb, hc, MapKept.run_findKey hk h1, MapKept.run_setObj_map _ hb, Result.andThen]
    · simp [hes]
    · simp
    · intro j hj
      exact (MapKept.heap_set hb).2 j (by omega)
    · simp
/-- An entry of a map that is written out: a step of the walk. -/
theorem wpList_put {ops : Array Oper} {rest : List Oper} {o : Oper} {a : Act} {Q : Exit → Act → World → Prop} (w : World) (hgd : o.guard = none) (m x v : Operand) (hop : o.op = Op.insert mt m x v)
    (hm : P.underlying mt = some (.map kt et)) (hk : P.underlying kt = some .string) (b : Nat) (l : List (List UInt8 × Value)) (hma : a.eval m = .map (some b)) (h : MapAt w b l) (k : List UInt8) (hx : a.eval x = .string (str k)) (val : Value) (hv : a.eval v = val)
    (hno : lookL l k = none) (hK : ∀ w', MapAt w' b (l ++ [(k, val)]) → Below b w w' → w'.heap.size = w.heap.size → wpList P ops Q rest (a.put o.dst undef) w') : wpList P ops Q (o :: rest) a w := by
  refine wpList_plain hgd fun K' hK' => ?_
  obtain ⟨w', hrun, r1, r2, r3⟩ := run_put hm hk h k val hno
  unfold Oper.wp
  simp [execOp, hop, hma, hx, hv, hrun, Result.andThen]
  exact hK' _ _ (hK w' r1 r2 r3)
end

end Go.Proofs.YtdbggicpcbecdaaGreatDoor
