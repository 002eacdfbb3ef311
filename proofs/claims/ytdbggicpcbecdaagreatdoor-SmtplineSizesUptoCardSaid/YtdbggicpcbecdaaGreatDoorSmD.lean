/-
  The commands' table.
-/
import Derived.Test.YtdbggicpcbecdaaGreatDoorSmC
import Derived.Test.YtdbggicpcbecdaaGreatDoorMapL
namespace Go.Proofs.YtdbggicpcbecdaaGreatDoor
open Go.RowKit Own Sm
set_option linter.unusedVariables false
set_option linter.unusedSimpArgs false
set_option maxRecDepth 100000
attribute [local go_sem] str_toList

def fnOf : Nat → Value
  | 0 => .func (.func 28) #[] #[]
  | 1 => .func (.func 29) #[] #[]
  | 2 => .func (.func 30) #[] #[]
  | _ => .func (.func 31) #[] #[]
def formV (q : Bt × Nat) : Value := .agg #[.string (str q.1), fnOf q.2]
def formsV : List (Bt × Value) := Sm.forms.map fun p => (p.1, formV p.2)
theorem look_forms (w : Bt) : lookL formsV w = (formK w).map formV := by
  unfold lookL formsV formK
  rw [List.find?_map]
  show Option.map _ (Option.map _ (List.find? (fun p => p.1 == w) forms)) = _
  cases List.find? (fun p : Bt × (Bt × Nat) => p.1 == w) forms <;> rfl

/-- A map that the call has made. -/
structure MapIn (w0 w : World) (b : Nat) (l : List (Bt × Value)) : Prop where
  map : MapAt w b l
  low : Below w0.heap.size w0 w
  new : w0.heap.size ≤ b
theorem MapIn.new' (w : World) : MapIn w (w.alloc (.map #[] 0)) w.heap.size [] := ⟨MapAt.new w, (Below.refl _ _).alloc (Nat.le_refl _) _, Nat.le_refl _⟩
theorem wpList_putIn {ops : Array Oper} {rest : List Oper} {o : Oper} {a : Act} {Q : Exit → Act → World → Prop} {mt kt et : TypeId} (w0 w : World) (hgd : o.guard = none) (m x v : Operand) (hop : o.op = Op.insert mt m x v)
    (hm : Tryz.prog.underlying mt = some (.map kt et)) (hk : Tryz.prog.underlying kt = some .string) (b : Nat) (l : List (Bt × Value)) (hma : a.eval m = .map (some b)) (h : MapIn w0 w b l) (k : Bt) (hx : a.eval x = .string (str k)) (val : Value) (hv : a.eval v = val)
    (hno : lookL l k = none) (hK : ∀ w', MapIn w0 w' b (l ++ [(k, val)]) → wpList Tryz.prog ops Q rest (a.put o.dst undef) w') : wpList Tryz.prog ops Q (o :: rest) a w := by
  refine wpList_put w hgd m x v hop hm hk b l hma h.map k hx val hv hno ?_
  intro w' h1 h2 h3
  exact hK w' ⟨h1, h.low.trans (h2.mono h.new), h.new⟩

set_option maxHeartbeats 4000000 in
theorem forms_any (w : World) : Calls Tryz.prog 18 #[] w fun e w' => ∃ b, e = .returned (.map (some b)) ∧ MapAt w' b formsV ∧ Below w.heap.size w w' ∧ w.heap.size ≤ b := by
  have hmm := @run_makeMap Tryz.prog
  have hM := MapIn.new' w
  go_enter Tryz.func18, Tryz.ntmps18
  go_wp2_with (refine wpList_putIn w _ rfl _ _ _ rfl Tryz.underlying46 Tryz.underlying9 _ _ rfl (by assumption) _ rfl _ rfl (by rfl) ?_; intro w_ h_)
  go_ret
  refine ⟨_, rfl, ?_, h_.low, h_.new⟩
  have hm := h_.map
  simp [go_sem] at hm
  exact hm

end Go.Proofs.YtdbggicpcbecdaaGreatDoor
