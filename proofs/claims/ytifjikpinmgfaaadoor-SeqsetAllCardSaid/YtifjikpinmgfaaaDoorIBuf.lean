/-
  A growing row of ints.
-/
import Derived.Test.YtifjikpinmgfaaaDoorNumb
namespace Go.Proofs.YtifjikpinmgfaaaDoor
open Go.RowKit Own
set_option linter.unusedVariables false
set_option linter.unusedSimpArgs false

theorem info_int : (Tryd.prog.info? 3).map (fun i => (i.zero, i.size, i.bytes)) = some (some (.int .i64 0), 1, 8) := by kernel_rfl
/-- Ints as cells. -/
def iv (l : List Int) : List Value := l.map (.int .i64)
theorem iv_len (l : List Int) : (iv l).length = l.length := by simp [iv]
theorem iv_append (l m : List Int) : iv (l ++ m) = iv l ++ iv m := by simp [iv]
theorem iv_at {l : List Int} {i : Nat} {x : Int} (h : l[i]? = some x) : (iv l)[i]? = some (.int .i64 x) := by simp [iv, h]
theorem iv_one (l : List Int) : ∀ u ∈ iv l, u.oneCell' = true := by
  intro u hu
  simp [iv] at hu
  obtain ⟨b, _, rfl⟩ := hu
  rfl
/-- v is a row of these ints, in memory made behind B. -/
def IBuf (B : Nat) (w : World) (v : Value) (l : List Int) : Prop := Row 3 (fun k => B ≤ k) w v (iv l) ∧ B ≤ w.heap.size
theorem IBuf.nil {B : Nat} {w : World} (h : B ≤ w.heap.size) : IBuf B w (.slice none 0 0) [] := ⟨Row.nil _ _ _, h⟩
theorem IBuf.keep {B : Nat} {w w' : World} {v : Value} {l : List Int} (h : IBuf B w v l) (hb : Below w.heap.size w w') : IBuf B w' v l := by
  refine ⟨⟨⟨h.1.1.1, ?_⟩, h.1.2⟩, Nat.le_trans h.2 hb.size⟩
  rcases h.1.1.2 with hn | ⟨g, cap, cur, rfl, hb2, hg, rest⟩
  · exact .inl hn
  · exact .inr ⟨g, cap, cur, rfl, hb2, (hb.block g (lt_of_block hg)).trans hg, rest⟩
theorem IBuf.alloc {B : Nat} {w : World} {v : Value} {l : List Int} (h : IBuf B w v l) (o : Obj) : IBuf B (w.alloc o) v l := h.keep ((Below.refl _ _).alloc (Nat.le_refl _) o)
theorem IBuf.mono {B B2 : Nat} {w : World} {v : Value} {l : List Int} (h : IBuf B2 w v l) (hB : B ≤ B2) : IBuf B w v l := ⟨h.1.mono fun k hk => Nat.le_trans hB hk, Nat.le_trans hB h.2⟩
theorem IBuf.full {B : Nat} {w : World} {v : Value} {l : List Int} (h : IBuf B w v l) : ∃ A c, v = .slice A l.length c ∧ l.length ≤ c ∧ Src w A (iv l) := by
  obtain ⟨A, c, he, hc, _⟩ := h.1.slice
  rw [iv_len] at he hc
  subst he
  exact ⟨A, c, rfl, hc, h.1.src⟩
theorem IBuf.lit (w : World) (l : List Int) (hl : l.length ≤ 1000000) : IBuf w.heap.size (w.alloc (.cells (iv l).toArray 3 (0, 0))) (.slice (some ⟨w.heap.size, 0, none⟩) l.length l.length) l := by
  refine ⟨⟨⟨?_, .inr ⟨w.heap.size, l.length, (iv l).toArray, ?_, Nat.zero_le _, heap_alloc_new w _, ?_, ?_, ?_, ?_⟩⟩, fun k hk => ?_⟩, by simp⟩
  · simp
  · simp [iv_len]
  · simp [iv_len]
  · unfold maxLen; omega
  · simp [iv_len]
  · simp [iv_len]; exact List.take_of_length_le (by rw [iv_len]; exact Nat.le_refl _)
  · simp [Value.ownBlock] at hk; omega
theorem isrc_some {w : World} {A : Option Addr} {l : List Int} (h : Src w A (iv l)) (hne : l ≠ []) : ∃ p, A = some p := by
  cases A with
  | none => have := h.1 rfl; simp [iv] at this; exact absurd this hne
  | some p => exact ⟨p, rfl⟩
theorem ilit_at (w : World) (l : List Int) (cs : Array Value) (fr : Nat × Nat) (n : Nat) (hn : n = w.heap.size) (h : cs.toList = iv l) : Src (w.alloc (.cells cs 3 fr)) (some ⟨n, 0, none⟩) (iv l) := by
  subst hn
  exact h ▸ src_lit w cs 3 fr

/-- append(v, y..): a step of the walk. -/
theorem wpList_ibuf {ops : Array Oper} {rest : List Oper} {o : Oper} {a : Act} {Q : Exit → Act → World → Prop} (B : Nat) (w : World) (hgd : o.guard = none) (s x : Operand)
    (ho : o.op = .call { callee := .builtin .append, args := #[s, x], argTypes := #[23, 23] }) (v : Value) (bs ys : List Int) (hs : a.eval s = v) (hbuf : IBuf B w v bs)
    (A : Option Addr) (n c : Nat) (hx : a.eval x = .slice A n c) (hn : n = ys.length) (hsrc : Src w A (iv ys)) (hlen : bs.length + ys.length ≤ 17592186044416)
    (h : ∀ v' w', IBuf B w' v' (bs ++ ys) → Below B w w' → wpList Tryd.prog ops Q rest (a.put o.dst v') w') : wpList Tryd.prog ops Q (o :: rest) a w := by
  refine wpList_append_row w hgd s x 23 3 ho (.int .i64 0) 8 Tryd.underlying23 info_int rfl v (iv bs) (iv ys) hs hbuf.1 A n c hx (by rw [hn, iv_len]) hsrc (iv_one ys) (by rw [iv_len, iv_len]; omega) (by rw [iv_len, iv_len]; omega) ?_
  intro v' w' hr hf
  refine h v' w' ⟨?_, Nat.le_trans hbuf.2 hf.size⟩ (hf.below (fun k hk => hbuf.1.2 k hk) hbuf.2)
  rw [iv_append]
  exact hr.mono fun k hk => by
    rcases hk with h1 | ⟨h1, _⟩
    · exact h1
    · have := hbuf.2; omega
end Go.Proofs.YtifjikpinmgfaaaDoor
