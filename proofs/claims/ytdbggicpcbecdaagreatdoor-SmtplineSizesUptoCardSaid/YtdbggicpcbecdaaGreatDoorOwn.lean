/-
  Blocks that belong to someone: a change of the world that touches only some blocks (Fr), a row of bytes that someone owns (Row), a row that is only read (Src). Plain lemmas on worlds.
-/
import Derived.WalkKit
import Derived.Laws.AppendOwn
import Derived.OwnWalk
import Derived.Deep.Draws
import Derived.DataElems
namespace Go.Proofs.YtdbggicpcbecdaaGreatDoor.Own
open Go.RowKit
set_option linter.unusedVariables false
set_option linter.unusedSimpArgs false

/-- A fact that the walk shall not use as a rule. -/
theorem hid {p : Prop} (h : p) : Hid p := h

/-- w' is w with new blocks, and with writes to blocks of S alone. -/
structure Fr (S : Nat → Prop) (w w' : World) : Prop where
  os : w'.os = w.os
  tape : w'.tape = w.tape
  output : w'.output = w.output
  size : w.heap.size ≤ w'.heap.size
  block : ∀ k, k < w.heap.size → ¬ S k → w'.heap[k]? = w.heap[k]?

section
variable {S T : Nat → Prop} {w w' a b c : World}

theorem Fr.refl (S : Nat → Prop) (w : World) : Fr S w w := ⟨rfl, rfl, rfl, Nat.le_refl _, fun _ _ _ => rfl⟩
theorem Fr.trans (h : Fr S a b) (k : Fr T b c) (hT : ∀ i, T i → S i ∨ a.heap.size ≤ i) : Fr S a c :=
  ⟨k.os.trans h.os, k.tape.trans h.tape, k.output.trans h.output, Nat.le_trans h.size k.size,
    fun i hi hS => (k.block i (Nat.lt_of_lt_of_le hi h.size) (fun ht => (hT i ht).elim hS (fun h2 => absurd hi (by omega)))).trans (h.block i hi hS)⟩
theorem Fr.mono (h : Fr S w w') (hS : ∀ k, S k → T k ∨ w.heap.size ≤ k) : Fr T w w' :=
  ⟨h.os, h.tape, h.output, h.size, fun k hk hn => h.block k hk (fun hs => (hS k hs).elim hn (fun h2 => absurd hk (by omega)))⟩
theorem Fr.below {B : Nat} (h : Fr S w w') (hS : ∀ k, S k → B ≤ k) (hB : B ≤ w.heap.size) : Below B w w' :=
  ⟨h.os, h.tape, h.output, h.size, fun k hk => h.block k (by omega) (fun hs => by have := hS k hs; omega)⟩
theorem Fr.cell (h : Fr S w w') {p : Addr} {v : Value} (hc : w.cell? p = some v) (hn : ¬ S p.block) : w'.cell? p = some v :=
  (World.cell?_of_block (h.block p.block (World.block_lt_of_cell? w p hc) hn)).trans hc
theorem Fr.heap (h : Fr S w w') {k : Nat} {o : Obj} (hc : w.heap[k]? = some o) (hn : ¬ S k) : w'.heap[k]? = some o :=
  (h.block k (Array.getElem?_eq_some_iff.1 hc).1 hn).trans hc
theorem Fr.of_grown {row : Option Nat} (hg : w.grownBy w' row) (hS : ∀ k, row = some k → S k) : Fr S w w' :=
  ⟨hg.os, hg.tape, hg.output, hg.size, fun k hk hn => hg.block k hk (fun e => hn (hS k e.symm))⟩
theorem Fr.alloc (S : Nat → Prop) (w : World) (o : Obj) : Fr S w (w.alloc o) := ⟨rfl, rfl, rfl, by simp, fun k hk _ => Below.heap_alloc w o k hk⟩
theorem Fr.drewN (S : Nat → Prop) (w : World) (n : Nat) : Fr S w (w.drewN n) := ⟨rfl, rfl, rfl, Nat.le_refl _, fun _ _ _ => rfl⟩
theorem Fr.drew (S : Nat → Prop) (w : World) : Fr S w w.drew := ⟨rfl, rfl, rfl, Nat.le_refl _, fun _ _ _ => rfl⟩
theorem Fr.setCell (w : World) {p : Addr} (hp : S p.block) (v : Value) : Fr S w (w.setCell p v) :=
  ⟨rfl, rfl, rfl, by simp [World.setCell], fun k _ hn => Below.heap_setCell w p v k (fun e => hn (e ▸ hp))⟩

/-- What is S's at w, and whatever is new between w and w'. -/
def ext (S : Nat → Prop) (w w' : World) : Nat → Prop := fun k => S k ∨ (w.heap.size ≤ k ∧ k < w'.heap.size)
/-- The blocks of S lie in w. -/
def In (S : Nat → Prop) (w : World) : Prop := ∀ k, S k → k < w.heap.size

theorem In.ext (h : In S w) (hs : w.heap.size ≤ w'.heap.size) : In (ext S w w') w' := fun k hk => hk.elim (fun h1 => by have := h k h1; omega) (fun h1 => h1.2)

/-- A row of values, one cell each, that lies in a block of S (or nowhere). -/
def Row (e : TypeId) (S : Nat → Prop) (w : World) (v : Value) (xs : List Value) : Prop :=
  w.ownsRow 0 e 1 v xs.length xs ∧ ∀ k, v.ownBlock = some k → S k

theorem Row.nil (e : TypeId) (S : Nat → Prop) (w : World) : Row e S w (.slice none 0 0) [] := ⟨World.ownsRow_nil w 0 e 1, fun k hk => by simp [Value.ownBlock] at hk⟩
theorem Row.mono {e : TypeId} {v : Value} {xs : List Value} (h : Row e S w v xs) (hS : ∀ k, S k → T k) : Row e T w v xs := ⟨h.1, fun k hk => hS k (h.2 k hk)⟩
theorem Row.only {e : TypeId} {v : Value} {xs : List Value} (h : Row e S w v xs) : Row e (fun k => v.ownBlock = some k) w v xs := ⟨h.1, fun _ hk => hk⟩
theorem Row.fr {e : TypeId} {v : Value} {xs : List Value} (h : Row e S w v xs) (hf : Fr T w w') (hd : ∀ k, S k → ¬ T k) : Row e S w' v xs := by
  refine ⟨⟨h.1.1, ?_⟩, h.2⟩
  rcases h.1.2 with hn | ⟨g, cap, cur, rfl, hb, hg, rest⟩
  · exact .inl hn
  · exact .inr ⟨g, cap, cur, rfl, hb, hf.heap hg (hd g (h.2 g rfl)), rest⟩
theorem Row.slice {e : TypeId} {v : Value} {xs : List Value} (h : Row e S w v xs) : ∃ A c, v = .slice A xs.length c ∧ xs.length ≤ c ∧ c ≤ maxLen ∧ (A = none → xs = [] ∧ c = 0) ∧ ∀ p, A = some p → S p.block ∧ ∀ j u, xs[j]? = some u → w.cell? (p.add j) = some u := by
  rcases h.1.2 with ⟨rfl, hn⟩ | ⟨g, cap, cur, rfl, hb, hg, hnc, hcm, hcs, htake⟩
  · have hx : xs = [] := List.eq_nil_of_length_eq_zero hn
    subst hx
    exact ⟨none, 0, rfl, Nat.le_refl _, by simp [maxLen], fun _ => ⟨rfl, rfl⟩, fun p hp => by simp at hp⟩
  · exact ⟨some ⟨g, 0, none⟩, cap, rfl, hnc, hcm, fun h => by simp at h, fun p hp => by
      simp at hp
      subst hp
      exact ⟨h.2 g rfl, h.1.cells (g := g) rfl⟩⟩

/-- A row of values that is read only. -/
def Src (w : World) (A : Option Addr) (xs : List Value) : Prop := (A = none → xs = []) ∧ ∀ p, A = some p → ∀ j u, xs[j]? = some u → w.cell? (p.add j) = some u

theorem Src.fr {A : Option Addr} {xs : List Value} (h : Src w A xs) (hf : Fr T w w') (hd : ∀ p, A = some p → ¬ T p.block) : Src w' A xs :=
  ⟨h.1, fun p hp j u hu => hf.cell (h.2 p hp j u hu) (by have := hd p hp; unfold Addr.add; split <;> exact this)⟩
theorem Src.below {A : Option Addr} {xs : List Value} (h : Src w A xs) (hb : Below w.heap.size w w') : Src w' A xs :=
  ⟨h.1, fun p hp j u hu => (hb.cell (World.block_lt_of_cell? w _ (h.2 p hp j u hu))).trans (h.2 p hp j u hu)⟩
theorem Src.take {A : Option Addr} {xs : List Value} (h : Src w A xs) (n : Nat) : Src w A (xs.take n) :=
  ⟨fun ha => by rw [h.1 ha]; simp, fun p hp j u hu => h.2 p hp j u (by rw [List.getElem?_take] at hu; split at hu <;> simp_all)⟩
theorem Src.drop {A : Option Addr} {xs : List Value} (h : Src w A xs) (n : Nat) : Src w (Option.map (fun x => x.add n) A) (xs.drop n) :=
  ⟨fun ha => by cases A with
    | none => rw [h.1 rfl]; simp
    | some p => simp at ha, fun p hp j u hu => by
    cases A with
    | none => simp at hp
    | some q =>
      simp at hp
      subst hp
      rw [List.getElem?_drop] at hu
      have := h.2 q rfl (n + j) u hu
      rwa [Addr.add_add]⟩
theorem Src.empty {A : Option Addr} : Src w A [] := ⟨fun _ => rfl, fun p hp j u hu => by simp at hu⟩
theorem Row.src {e : TypeId} {A : Option Addr} {n c : Nat} {xs : List Value} (h : Row e S w (.slice A n c) xs) : Src w A xs := by
  obtain ⟨A', c', he, h1, h2, h3, h4⟩ := h.slice
  simp at he
  obtain ⟨rfl, rfl, rfl⟩ := he
  exact ⟨fun ha => (h3 ha).1, fun p hp => (h4 p hp).2⟩

end

section
variable {P : Program}

/-- append(v, x..) onto a row of one's own, from whatever is read. -/
theorem run_append_row (w : World) (t ty e : TypeId) (i : TypeInfo) (z : Value) (bytes : Nat) (ht : P.underlying t = some (.slice e)) (hi : P.info? e = some i) (hz : i.zero = some z)
    (hsize : i.size = 1) (hby : i.bytes = bytes) (hzs : z.cells.size = 1) {S : Nat → Prop} (v : Value) (xs ys : List Value) (hrow : Row e S w v xs) (A : Option Addr) (c : Nat) (hsrc : Src w A ys)
    (h1 : ∀ u ∈ ys, u.oneCell' = true) (hlen : xs.length + ys.length ≤ 70368744177664) (hbytes : (xs.length + ys.length) * bytes ≤ 140737488355328) :
    ∃ v' w', (Builtin.append_ #[t, t] ty #[v, .slice A ys.length c]).run P w = .ok v' w' ∧ Row e (fun k => S k ∨ k = w.heap.size ∧ k < w'.heap.size) w' v' (xs ++ ys) ∧ Fr (fun k => v.ownBlock = some k) w w' := by
  have hmax : ∀ n, n ≤ 70368744177664 → n ≤ maxLen := fun n hn => by unfold maxLen; omega
  cases A with
  | none =>
    have hy : ys = [] := hsrc.1 rfl
    subst hy
    refine ⟨v, w, ?_, ?_, Fr.refl _ _⟩
    · rcases hrow.1.2 with ⟨rfl, hn⟩ | ⟨g, cap, cur, rfl, hb, hg, hnc, rest⟩
      · simp [Builtin.append_, run_underlying ht, sizeOf, typeInfo, hi, Builtin.lenOf, Builtin.firstCells, loadCells, loadCellsFrom]
      · simp [Builtin.append_, run_underlying ht, sizeOf, typeInfo, hi, Builtin.lenOf, Builtin.firstCells, hnc, storeCells]
    · simp only [List.append_nil]
      exact hrow.mono fun k hk => .inl hk
  | some p =>
    have hl : ys.length = ys.length * i.size := by rw [hsize]; simp
    have hnews := hsrc.2 p rfl
    have grown : ∀ (old : Nat), old < xs.length + ys.length →
        Row e (fun k => S k ∨ k = w.heap.size ∧ k < (w.drew.alloc (.cells (xs.toArray ++ ys.toArray ++ Builtin.zeroCells z.cells (grownCap w (xs.length + ys.length) old e - (xs.length + ys.length))) e)).heap.size)
          (w.drew.alloc (.cells (xs.toArray ++ ys.toArray ++ Builtin.zeroCells z.cells (grownCap w (xs.length + ys.length) old e - (xs.length + ys.length))) e))
          (.slice (some ⟨w.heap.size, 0, none⟩) (xs.length + ys.length) (grownCap w (xs.length + ys.length) old e)) (xs ++ ys) := by
      intro old ho
      have hge := grownCap_ge w (xs.length + ys.length) old e
      have hcm : grownCap w (xs.length + ys.length) old e ≤ maxLen := grownCap_le_maxLen w _ old e (hmax _ hlen)
      refine ⟨⟨by simp, .inr ⟨w.heap.size, _, _, by rw [List.length_append], Nat.zero_le _, heap_alloc_new w.drew _, by rw [List.length_append]; exact hge, hcm, ?_, ?_⟩⟩, fun k hk => ?_⟩
      · simp only [Array.size_append, List.size_toArray, size_zeroCells, hzs]
        omega
      · simp only [Array.toList_append, List.append_assoc, Nat.mul_one, List.length_append]
        rw [← List.append_assoc, ← List.length_append]
        exact List.take_left
      · simp [Value.ownBlock] at hk
        subst hk
        exact .inr ⟨rfl, by simp⟩
    rcases hrow.1.2 with ⟨rfl, hn⟩ | ⟨g, cap, cur, rfl, hbg, hg, hnc, hcm, hcs, htake⟩
    · have hx : xs = [] := List.eq_nil_of_length_eq_zero hn
      subst hx
      by_cases hm : ys.length = 0
      · have hy : ys = [] := List.eq_nil_of_length_eq_zero hm
        subst hy
        refine ⟨.slice none 0 0, w, ?_, Row.nil _ _ _, Fr.refl _ _⟩
        simp [Builtin.append_, run_underlying ht, sizeOf, typeInfo, hi, Builtin.lenOf, Builtin.firstCells, loadCells, loadCellsFrom]
      · have hr := run_append_nil (P := P) w t ty e i z ht hi hz p ys.length c ys hl hnews (by omega) (by simp only [List.length_nil] at hlen; omega) (by simp only [List.length_nil, Nat.zero_add] at hbytes; rw [hby]; omega)
        have hgr := grown 0 (by omega)
        simp only [List.length_nil, Nat.zero_add, List.nil_append, Array.empty_append] at hgr ⊢
        exact ⟨_, _, hr, hgr, ⟨rfl, rfl, rfl, by simp, fun k hk _ => Below.heap_alloc w.drew _ k hk⟩⟩
    · by_cases hroom : xs.length + ys.length ≤ cap
      · have hfit : xs.length * i.size + ys.length ≤ cur.size := by rw [hsize, hcs]; omega
        have hr := run_append_room (P := P) w t ty e i ht hi g xs.length cap cur hg p ys.length c ys hl hnews h1 hroom hfit
        refine ⟨_, _, hr, ⟨⟨by simp, .inr ⟨g, cap, _, by rw [List.length_append], hbg, setRow_heap w g cur _ e _ hg, by rw [List.length_append]; exact hroom, hcm, ?_, ?_⟩⟩, fun k hk => ?_⟩, ⟨rfl, rfl, rfl, by simp, fun k _ hk => setRow_other w g k _ (fun e => hk (by simp [Value.ownBlock, e]))⟩⟩
        · simp only [List.size_toArray, List.length_append, List.length_take, List.length_drop, Array.length_toList]
          rw [hsize]
          omega
        · rw [hsize, htake, Nat.mul_one]
          exact List.take_left
        · simp [Value.ownBlock] at hk
          subst hk
          exact .inl (hrow.2 g rfl)
      · have holds : ∀ j u, xs[j]? = some u → w.cell? ((⟨g, 0, none⟩ : Addr).add j) = some u := hrow.1.cells (g := g) rfl
        have hr := run_append_grow (P := P) w t ty e i z ht hi hz ⟨g, 0, none⟩ xs.length cap xs (by rw [hsize]; simp) holds p ys.length c ys hl hnews (by omega) (by omega) (growslice_fits (by omega) (by rw [hby]; exact hbytes))
        have hgr := grown cap (by omega)
        exact ⟨_, _, hr, hgr, ⟨rfl, rfl, rfl, by simp, fun k hk _ => Below.heap_alloc w.drew _ k hk⟩⟩

/-- The same as a step of the walk. -/
theorem wpList_append_row {ops : Array Oper} {rest : List Oper} {o : Oper} {a : Act} {Q : Exit → Act → World → Prop} (w : World) (hgd : o.guard = none) (s x : Operand) (t e : TypeId)
    (ho : o.op = .call { callee := .builtin .append, args := #[s, x], argTypes := #[t, t] }) (z : Value) (bytes : Nat) (ht : P.underlying t = some (.slice e))
    (hinfo : (P.info? e).map (fun i => (i.zero, i.size, i.bytes)) = some (some z, 1, bytes)) (hzs : z.cells.size = 1) {S : Nat → Prop} (v : Value) (xs ys : List Value) (hs : a.eval s = v) (hrow : Row e S w v xs)
    (A : Option Addr) (n c : Nat) (hx : a.eval x = .slice A n c) (hn : n = ys.length) (hsrc : Src w A ys) (h1 : ∀ u ∈ ys, u.oneCell' = true) (hlen : xs.length + ys.length ≤ 70368744177664) (hbytes : (xs.length + ys.length) * bytes ≤ 140737488355328)
    (h : ∀ v' w', Row e (fun k => S k ∨ k = w.heap.size ∧ k < w'.heap.size) w' v' (xs ++ ys) → Fr (fun k => v.ownBlock = some k) w w' → wpList P ops Q rest (a.put o.dst v') w') : wpList P ops Q (o :: rest) a w := by
  refine wpList_plain hgd fun K hK => ?_
  obtain ⟨i, hi, hz, hsize, hby⟩ := info_parts hinfo
  subst hn
  obtain ⟨v', w', hrun, hr, hf⟩ := run_append_row (P := P) w t o.type e i z bytes ht hi hz hsize hby hzs v xs ys hrow A c hsrc h1 hlen hbytes
  unfold Oper.wp
  simp [execOp, ho, resolve, invoke, builtin, hs, hx, hrun, Result.andThen]
  exact hK _ _ (h v' w' hr hf)
end

theorem cells_at {w : World} {g : Nat} {cs : Array Value} {t : TypeId} {fr : Nat × Nat} (h : w.heap[g]? = some (.cells cs t fr)) (j : Nat) : w.cell? ⟨g, j, none⟩ = cs[j]? := by
  simp [World.cell?, h]
theorem free_at {w : World} {g : Nat} {cs : Array Value} {t : TypeId} (h : w.heap[g]? = some (.cells cs t (0, 0))) (j : Nat) : w.frozen? ⟨g, j, none⟩ = false := by
  simp [World.frozen?, h]
theorem block_set {w : World} {g : Nat} {cs : Array Value} {t : TypeId} {fr : Nat × Nat} (h : w.heap[g]? = some (.cells cs t fr)) (j : Nat) (u : Value) :
    (w.setCell ⟨g, j, none⟩ u).heap[g]? = some (.cells (cs.setIfInBounds j u) t fr) := by
  simp [World.setCell, Array.getElem?_modify, h]
theorem block_far {w : World} {g : Nat} {o : Obj} (h : w.heap[g]? = some o) {p : Addr} (hn : g ≠ p.block) (u : Value) : (w.setCell p u).heap[g]? = some o :=
  (Below.heap_setCell w p u g hn).trans h
theorem lt_of_block {w : World} {g : Nat} {o : Obj} (h : w.heap[g]? = some o) : g < w.heap.size := (Array.getElem?_eq_some_iff.1 h).1

end Go.Proofs.YtdbggicpcbecdaaGreatDoor.Own
