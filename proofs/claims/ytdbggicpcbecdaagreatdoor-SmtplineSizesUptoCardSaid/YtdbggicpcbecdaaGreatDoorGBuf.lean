/-
  A growing row of values of any size that someone owns: laws on worlds. No program here.
-/
import Derived.Test.YtdbggicpcbecdaaGreatDoorOwn
import Derived.Laws.OwnMore
import Derived.Deep.Onto
namespace Go.Proofs.YtdbggicpcbecdaaGreatDoor
open Go.RowKit Own
set_option linter.unusedVariables false
set_option linter.unusedSimpArgs false

/-- v is a row of n elements, sz cells each, that holds these cells, in memory made behind B. -/
def GBuf (e : TypeId) (sz : Nat) (B : Nat) (w : World) (v : Value) (n : Nat) (xs : List Value) : Prop := w.ownsRow B e sz v n xs ∧ B ≤ w.heap.size
section
variable {e : TypeId} {sz B : Nat} {w w' : World} {v : Value} {n : Nat} {xs : List Value}
theorem GBuf.nil (h : B ≤ w.heap.size) : GBuf e sz B w (.slice none 0 0) 0 [] := ⟨World.ownsRow_nil w B e sz, h⟩
theorem GBuf.keep (h : GBuf e sz B w v n xs) (hb : Below w.heap.size w w') : GBuf e sz B w' v n xs := by
  refine ⟨⟨h.1.1, ?_⟩, Nat.le_trans h.2 hb.size⟩
  rcases h.1.2 with hn | ⟨g, cap, cur, rfl, hb2, hg, rest⟩
  · exact .inl hn
  · exact .inr ⟨g, cap, cur, rfl, hb2, (hb.block g (lt_of_block hg)).trans hg, rest⟩
theorem GBuf.alloc (h : GBuf e sz B w v n xs) (o : Obj) : GBuf e sz B (w.alloc o) v n xs := h.keep ((Below.refl _ _).alloc (Nat.le_refl _) o)
theorem GBuf.mono {B2 : Nat} (h : GBuf e sz B2 w v n xs) (hB : B ≤ B2) : GBuf e sz B w v n xs := ⟨h.1.mono hB, Nat.le_trans hB h.2⟩
theorem GBuf.full (h : GBuf e sz B w v n xs) : ∃ A c, v = .slice A n c ∧ n ≤ c ∧ (A = none → n = 0 ∧ xs = []) ∧ ∀ p, A = some p → ∃ g, p = ⟨g, 0, none⟩ ∧ B ≤ g ∧ ∀ j u, xs[j]? = some u → w.cell? ⟨g, j, none⟩ = some u := by
  rcases h.1.2 with ⟨rfl, rfl⟩ | ⟨g, cap, cur, rfl, hb2, hg, h1, h2, h3, h4⟩
  · have hx : xs = [] := List.eq_nil_of_length_eq_zero (by rw [h.1.1]; simp)
    exact ⟨none, 0, rfl, Nat.le_refl _, fun _ => ⟨rfl, hx⟩, fun p hp => by cases hp⟩
  · refine ⟨_, _, rfl, h1, (fun hh => by cases hh), fun p hp => ?_⟩
    obtain rfl : (⟨g, 0, none⟩ : Addr) = p := Option.some.inj hp
    refine ⟨g, rfl, hb2, fun j u hu => ?_⟩
    have := h.1.cells (g := g) rfl j u hu
    rwa [Addr.add_lit, Nat.zero_add] at this
/-- A literal of values. -/
theorem GBuf.lit (w : World) (cs : Array Value) (n : Nat) (hn : n ≤ 1000000) (hs : cs.size = n * sz) : GBuf e sz w.heap.size (w.alloc (.cells cs e (0, 0))) (.slice (some ⟨w.heap.size, 0, none⟩) n n) n cs.toList := by
  refine ⟨⟨by rw [Array.length_toList, hs], .inr ⟨w.heap.size, n, cs, rfl, Nat.le_refl _, heap_alloc_new w _, Nat.le_refl _, by unfold maxLen; omega, hs, ?_⟩⟩, by simp⟩
  exact List.take_of_length_le (by rw [Array.length_toList, hs]; exact Nat.le_refl _)
theorem lit_cells (w : World) (cs : Array Value) (e : TypeId) (fr : Nat × Nat) (n : Nat) (hn : n = w.heap.size) : ∀ j u, cs.toList[j]? = some u → (w.alloc (.cells cs e fr)).cell? ((⟨n, 0, none⟩ : Addr).add j) = some u := by
  subst hn
  intro j u hu
  rw [Addr.add_lit, cells_at (heap_alloc_new w _), Nat.zero_add]
  simpa using hu
end
/-- append(v, y..) of m elements that lie somewhere: a step of the walk. -/
theorem wpList_gbuf {P : Program} {ops : Array Oper} {rest : List Oper} {o : Oper} {a : Act} {Q : Exit → Act → World → Prop} (B : Nat) (w : World) (hgd : o.guard = none) (s x : Operand) (t e : TypeId) (sz bytes : Nat) (z : Value)
    (ho : o.op = .call { callee := .builtin .append, args := #[s, x], argTypes := #[t, t] }) (ht : P.underlying t = some (.slice e)) (hinfo : (P.info? e).map (fun i => (i.zero, i.size, i.bytes)) = some (some z, sz, bytes)) (hzs : z.cells.size = sz) (hsz : 0 < sz)
    (v : Value) (n : Nat) (xs : List Value) (hs : a.eval s = v) (hbuf : GBuf e sz B w v n xs)
    (ad : Addr) (m c : Nat) (news : List Value) (hx : a.eval x = .slice (some ad) m c) (hl : news.length = m * sz) (hnews : ∀ j u, news[j]? = some u → w.cell? (ad.add j) = some u) (h1 : ∀ u ∈ news, u.oneCell' = true)
    (hlen : n + m ≤ maxLen) (hbytes : (n + m) * bytes ≤ 140737488355328)
    (h : ∀ v' w', GBuf e sz B w' v' (n + m) (xs ++ news) → Below B w w' → wpList P ops Q rest (a.put o.dst v') w') : wpList P ops Q (o :: rest) a w := by
  obtain ⟨i, hi, hz, hsize, hby⟩ := info_parts hinfo
  refine wpList_append_own w hgd s x t ho B e i z sz bytes ht hi hz hsize hby hzs hsz v n xs hs hbuf.1 ad m c news hx hl hnews h1 hlen hbytes hbuf.2 ?_
  intro v' w' h2 h3 _
  exact h v' w' ⟨h2, Nat.le_trans hbuf.2 h3.size⟩ ⟨h3.os, h3.tape, h3.output, h3.size, fun k hk => h3.block k (by have := hbuf.2; omega) (fun e => by have := (hbuf.1.lt k e.symm).1; omega)⟩
end Go.Proofs.YtdbggicpcbecdaaGreatDoor
