/-
  Rows of texts that grow; a join.
-/
import Derived.Test.YtdbggicpcbecdaaGreatDoorOnly
namespace Go.Proofs.YtdbggicpcbecdaaGreatDoor
open Go.RowKit Own Ad
set_option linter.unusedVariables false
set_option linter.unusedSimpArgs false
set_option maxRecDepth 100000

namespace Ad
theorem join_len (sep : List UInt8) (k : Nat) : ∀ l : List (List UInt8), (∀ x ∈ l, x.length ≤ k) → (Lib.join l sep).length ≤ l.length * (k + sep.length)
  | [], _ => by simp [Lib.join_nil]
  | x :: r, h => by
    rw [Lib.join_cons, List.length_append]
    have ht : ∀ r : List (List UInt8), (∀ x ∈ r, x.length ≤ k) → (Lib.joinTail sep r).length ≤ r.length * (k + sep.length) := by
      intro r hr
      induction r with
      | nil => simp [Lib.joinTail]
      | cons y r ih =>
        have := ih (fun x hx => hr x (by simp [hx]))
        have hy := hr y (by simp)
        have e : Lib.joinTail sep (y :: r) = sep ++ y ++ Lib.joinTail sep r := by simp [Lib.joinTail]
        rw [e, List.length_append, List.length_append, List.length_cons, Nat.add_mul]
        omega
    have h1 := ht r (fun x hx => h x (by simp [hx]))
    have h2 := h x (by simp)
    rw [List.length_cons, Nat.add_mul]
    omega
end Ad

theorem info_string : (Tryz.prog.info? 9).map (fun i => (i.zero, i.size, i.bytes)) = some (some (.string ByteArray.empty), 1, 16) := by kernel_rfl
def sv (l : List (List UInt8)) : List Value := l.map fun s => .string (str s)
theorem sv_append (l m : List (List UInt8)) : sv (l ++ m) = sv l ++ sv m := by simp [sv]
theorem sv_one (l : List (List UInt8)) : ∀ u ∈ sv l, u.oneCell' = true := by
  intro u hu
  simp only [sv, List.mem_map] at hu
  obtain ⟨r, _, rfl⟩ := hu
  rfl
/-- A row of texts of one's own. -/
def SBuf (B : Nat) (w : World) (v : Value) (l : List (List UInt8)) : Prop := GBuf 9 1 B w v l.length (sv l)
theorem SBuf.keep {B : Nat} {w w' : World} {v : Value} {l : List (List UInt8)} (h : SBuf B w v l) (hb : Below w.heap.size w w') : SBuf B w' v l := GBuf.keep h hb
theorem SBuf.alloc {B : Nat} {w : World} {v : Value} {l : List (List UInt8)} (h : SBuf B w v l) (o : Obj) : SBuf B (w.alloc o) v l := GBuf.alloc h o
theorem SBuf.mono {B B2 : Nat} {w : World} {v : Value} {l : List (List UInt8)} (h : SBuf B2 w v l) (hB : B ≤ B2) : SBuf B w v l := GBuf.mono h hB
theorem SBuf.nil {B : Nat} {w : World} (h : B ≤ w.heap.size) : SBuf B w (.slice none 0 0) [] := GBuf.nil h
theorem SBuf.full {B : Nat} {w : World} {v : Value} {l : List (List UInt8)} (h : SBuf B w v l) : ∃ A c, v = .slice A l.length c ∧ l.length ≤ c ∧ (A = none → l = []) ∧ ∀ p, A = some p → ∃ g, p = ⟨g, 0, none⟩ ∧ B ≤ g ∧ ∀ j x, l[j]? = some x → w.cell? ⟨g, j, none⟩ = some (.string (str x)) := by
  obtain ⟨A, c, hv, hc, h1, h2⟩ := GBuf.full h
  refine ⟨A, c, hv, hc, (fun ha => List.eq_nil_of_length_eq_zero (h1 ha).1), fun p hp => ?_⟩
  obtain ⟨g, rfl, hg, hcell⟩ := h2 p hp
  exact ⟨g, rfl, hg, fun j x hx => hcell j _ (by simp [sv, hx])⟩
theorem slit (w : World) (x : List UInt8) (cs : Array Value) (fr : Nat × Nat) (n : Nat) (hn : n = w.heap.size) (h : cs.toList = sv [x]) : ∀ j u, (sv [x])[j]? = some u → (w.alloc (.cells cs 9 fr)).cell? ((⟨n, 0, none⟩ : Addr).add j) = some u := by
  rw [← h]
  exact lit_cells w cs _ fr n hn
/-- append(v, x) of one text: a step of the walk. -/
theorem wpList_sbuf {ops : Array Oper} {rest : List Oper} {o : Oper} {a : Act} {Q : Exit → Act → World → Prop} (B : Nat) (w : World) (hgd : o.guard = none) (s x : Operand)
    (ho : o.op = .call { callee := .builtin .append, args := #[s, x], argTypes := #[23, 23] }) (v : Value) (l : List (List UInt8)) (r : List UInt8) (hs : a.eval s = v) (hbuf : SBuf B w v l)
    (ad : Addr) (c : Nat) (hx : a.eval x = .slice (some ad) 1 c) (hnews : ∀ j u, (sv [r])[j]? = some u → w.cell? (ad.add j) = some u) (hlen : l.length ≤ 1000000000)
    (h : ∀ v' w', SBuf B w' v' (l ++ [r]) → Below B w w' → wpList Tryz.prog ops Q rest (a.put o.dst v') w') : wpList Tryz.prog ops Q (o :: rest) a w := by
  refine wpList_gbuf B w hgd s x 23 9 1 16 _ ho Tryz.underlying23 info_string rfl (by decide) v l.length (sv l) hs hbuf ad 1 c (sv [r]) hx rfl hnews (sv_one [r]) (by unfold maxLen; omega) (by omega) ?_
  intro v' w' h1 h2
  refine h v' w' ?_ h2
  unfold SBuf
  rw [sv_append, List.length_append]
  exact h1

theorem SBuf.only {B b : Nat} {w w' : World} {v : Value} {l : List (List UInt8)} (h : SBuf B w v l) (ho : Only b w w') (hb : b < B) : SBuf B w' v l := by
  refine ⟨⟨h.1.1, ?_⟩, Nat.le_trans h.2 ho.size⟩
  rcases h.1.2 with hn | ⟨g, cap, cur, rfl, hb2, hg, rest⟩
  · exact .inl hn
  · exact .inr ⟨g, cap, cur, rfl, hb2, (ho.block (by omega) (lt_of_block hg)).trans hg, rest⟩

end Go.Proofs.YtdbggicpcbecdaaGreatDoor
