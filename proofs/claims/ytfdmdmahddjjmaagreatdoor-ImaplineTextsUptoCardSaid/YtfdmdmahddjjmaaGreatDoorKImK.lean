/-
  Maps of kinds; what an item's walk leans on.
-/
import Derived.Test.YtfdmdmahddjjmaaGreatDoorKImJ
import Derived.Test.YtfdmdmahddjjmaaGreatDoorPkOwn
import Derived.Test.YtfdmdmahddjjmaaGreatDoorKImL
namespace Go.Proofs.YtfdmdmahddjjmaaGreatDoor
open Go.RowKit Own Im
set_option linter.unusedVariables false
set_option linter.unusedSimpArgs false
set_option maxRecDepth 100000
attribute [local go_sem] str_toList str_size

/-- A map that the call has made. -/
structure MapIn (w0 w : World) (b : Nat) (l : List (Bt × Value)) : Prop where
  map : MapAt w b l
  low : Below w0.heap.size w0 w
  new : w0.heap.size ≤ b
theorem MapIn.new' (w : World) : MapIn w (w.alloc (.map #[] 0)) w.heap.size [] := ⟨MapAt.new w, (Below.refl _ _).alloc (Nat.le_refl _) _, Nat.le_refl _⟩
theorem wpList_putIn {ops : Array Oper} {rest : List Oper} {o : Oper} {a : Act} {Q : Exit → Act → World → Prop} {mt kt et : TypeId} (w0 w : World) (hgd : o.guard = none) (m x v : Operand) (hop : o.op = Op.insert mt m x v)
    (hm : Tryz.prog.underlying mt = some (.map kt et)) (hk : Tryz.prog.underlying kt = some .string) (b : Nat) (l : List (Bt × Value)) (hma : a.eval m = .map (some b)) (h : MapIn w0 w b l) (k : Bt) (hx : a.eval x = .string (str k)) (val : Value) (hv : a.eval v = val)
    (hno : lookL l k = none) (hK : ∀ w', MapIn w0 w' b (l ++ [(k, val)]) → wpList Tryz.prog ops Q rest (a.put o.dst undef) w') : wpList Tryz.prog ops Q (o :: rest) a w := by
  refine wpList_put w hgd m x v hop hm hk b l hma h.map k hx val hv hno ?_
  intro w' h1 h2 h3
  exact hK w' ⟨h1, h.low.trans (h2.mono h.new), h.new⟩
def kindV (l : List (Bt × Int)) : List (Bt × Value) := l.map fun p => (p.1, .int .i64 p.2)
theorem look_kind (l : List (Bt × Int)) (x : Bt) : (lookL (kindV l) x).getD (.int .i64 0) = .int .i64 (kindOf l x) := by
  unfold lookL kindV kindOf
  rw [List.find?_map]
  show (Option.map _ (Option.map _ (List.find? (fun p : Bt × Int => p.1 == x) l))).getD _ = _
  cases List.find? (fun p : Bt × Int => p.1 == x) l <;> rfl
theorem zero_int (w : World) : (zeroValue 3).run Tryz.prog w = .ok (.int .i64 0) w := by
  have h : (Tryz.prog.info? 3).map (fun i => i.zero) = some (some (.int .i64 0)) := by kernel_rfl
  obtain ⟨i, hi, hz⟩ := Option.map_eq_some_iff.1 h
  simp [zeroValue, typeInfo, hi, hz, Result.andThen]
theorem lookK (l : List (Bt × Int)) (x : Bt) {w : World} {m : Nat} (h : MapAt w m (kindV l)) : (Instr.lookup 100 (.map (some m)) (.string (str x)) false).run Tryz.prog w = .ok (.int .i64 (kindOf l x)) w := by
  have := run_look Tryz.underlying100 Tryz.underlying9 h x (zero_int w)
  rw [look_kind] at this
  exact this
theorem SecPost.cases {b c : Nat} {w w' : World} {k : Int} {pk : Bool} {fr of : Int} {r : Option ((List Int × Int) × Bt)} {e : Ending} (h : SecPost b c w k pk fr of r e w') :
    (r = none ∧ e = .panicked thrown ∧ Two b c w w') ∨ ∃ l wh t sv, r = some ((l, wh), t) ∧ e = .returned (.tuple #[]) ∧ RdI w' b t ∧ NBuf w.heap.size w' sv l ∧ ItAt w' c k sv wh pk fr of ∧ Two b c w w' := by
  obtain ⟨ho, h⟩ := h
  rcases r with _ | ⟨⟨l, wh⟩, t⟩
  · exact .inl ⟨rfl, h, ho⟩
  · obtain ⟨h1, h2, sv, h3, h4⟩ := h
    exact .inr ⟨l, wh, t, sv, rfl, h1, h2, h3, h4, ho⟩
theorem Only.two_trans {b c : Nat} {w w' w2 : World} (h : Only b w w') (k : Two b c w' w2) (hc : w.heap.size ≤ c) : Only b w w2 := (h.two.trans k).only hc
theorem Only.setNew {b d j : Nat} {w w' : World} (h : Only b w w') (hb : b < w.heap.size) (hd : w.heap.size ≤ d) (x : Value) : Only b w (w'.setCell ⟨d, j, none⟩ x) := h.two_trans (Two.set w' (Nat.lt_of_lt_of_le hb hd) j x) hd
theorem ItAt.two {b c d : Nat} {w w' : World} {k wh fr of : Int} {sv : Value} {pk : Bool} (h : ItAt w d k sv wh pk fr of) (ho : Two b c w w') (h1 : d ≠ b) (h2 : d ≠ c) : ItAt w' d k sv wh pk fr of := (ho.block h1 h2 h.lt).trans h
theorem ItAt.far {w : World} {c d j : Nat} {k wh fr of : Int} {sv : Value} {pk : Bool} (h : ItAt w d k sv wh pk fr of) (hc : d ≠ c) (x : Value) : ItAt (w.setCell ⟨c, j, none⟩ x) d k sv wh pk fr of := (Below.heap_setCell w ⟨c, j, none⟩ x d hc).trans h
theorem kind_nonneg (x : Bt) : 0 ≤ kindOf itemKinds x := by
  unfold kindOf
  cases h : itemKinds.find? fun p => p.1 == x with
  | none => decide
  | some p =>
    have := List.mem_of_find?_eq_some h
    have hall : ∀ p ∈ itemKinds, 0 ≤ p.2 := by decide
    exact hall p this
end Go.Proofs.YtfdmdmahddjjmaaGreatDoor
