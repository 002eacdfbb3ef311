/-
  Rows of items and of keys that grow.
-/
import Derived.Test.YtfdmdmahddjjmaaGreatDoorKImK
import Derived.Deep.AppendLies
namespace Go.Proofs.YtfdmdmahddjjmaaGreatDoor
open Go.RowKit Own Im
set_option linter.unusedVariables false
set_option linter.unusedSimpArgs false
set_option maxRecDepth 100000
attribute [local go_sem] str_toList str_size

/-- A row of another kind of elements stays where one row grows. -/
theorem GBuf.grown {e e2 : TypeId} {sz sz2 B B2 : Nat} {w w' : World} {v u : Value} {n m : Nat} {xs ys : List Value} (he : e ≠ e2) (h : GBuf e sz B w u n xs) (ho : GBuf e2 sz2 B2 w v m ys) (hg : w.grownBy w' v.ownBlock) : GBuf e sz B w' u n xs := by
  refine ⟨⟨h.1.1, ?_⟩, Nat.le_trans h.2 hg.size⟩
  rcases h.1.2 with hn | ⟨g, cap, cur, rfl, hb2, hb, rest⟩
  · exact .inl hn
  · refine .inr ⟨g, cap, cur, rfl, hb2, (hg.block g (lt_of_block hb) ?_).trans hb, rest⟩
    intro hq
    rcases ho.1.2 with ⟨hv, -⟩ | ⟨g2, cap2, cur2, rfl, -, hb2', -⟩
    · subst hv
      cases hq
    · have : g2 = g := by simpa [Value.ownBlock] using hq.symm
      subst this
      rw [hb] at hb2'
      injection hb2' with h1
      injection h1 with h2 h3
      exact he h3
theorem ItCells.grown {B B2 : Nat} {w w' : World} {v : Value} {m : Nat} {ys : List Value} (ho : GBuf 37 6 B2 w v m ys) (hg : w.grownBy w' v.ownBlock) : ∀ {l : List It} {xs : List Value}, ItCells B w l xs → ItCells B w' l xs
  | [], _, h => h
  | it :: l, xs, ⟨sv, r, h1, h2, h3⟩ => ⟨sv, r, h1, h2.grown (by decide) ho hg, ItCells.grown ho hg h3⟩
theorem KyCells.grown {B B2 : Nat} {w w' : World} {v : Value} {m : Nat} {ys : List Value} (ho : GBuf 39 5 B2 w v m ys) (hg : w.grownBy w' v.ownBlock) : ∀ {l : List Ky} {xs : List Value}, KyCells B w l xs → KyCells B w' l xs
  | [], _, h => h
  | k :: l, xs, ⟨sv, r, h1, h2, h3⟩ => ⟨sv, r, h1, GBuf.grown (by decide) h2 ho hg, KyCells.grown ho hg h3⟩
theorem slice_one (A : Option Addr) (n k : Nat) : (Value.slice A n k).oneCell' = true := rfl
theorem itC_one (it : It) (A : Option Addr) (n k : Nat) : ∀ u ∈ itC it (.slice A n k), u.oneCell' = true := by
  intro u hu
  simp at hu
  rcases hu with rfl | rfl | rfl | rfl | rfl | rfl <;> rfl
theorem kyC_one (x : Ky) (A : Option Addr) (n k : Nat) : ∀ u ∈ kyC x (.slice A n k), u.oneCell' = true := by
  intro u hu
  simp at hu
  rcases hu with rfl | rfl | rfl | rfl | rfl <;> rfl
theorem own_below {w w' : World} {e : TypeId} {sz B n : Nat} {v : Value} {xs : List Value} (hbuf : GBuf e sz B w v n xs) (h3 : w.grownBy w' v.ownBlock) : Below B w w' :=
  ⟨h3.os, h3.tape, h3.output, h3.size, fun k hk => h3.block k (by have := hbuf.2; omega) (fun e => by have := (hbuf.1.lt k e.symm).1; omega)⟩
/-- append(v, it) of one item: a step of the walk. -/
theorem wpList_ibuf {ops : Array Oper} {rest : List Oper} {o : Oper} {a : Act} {Q : Exit → Act → World → Prop} (B : Nat) (w : World) (hgd : o.guard = none) (s x : Operand)
    (ho : o.op = .call { callee := .builtin .append, args := #[s, x], argTypes := #[26, 26] }) (v : Value) (l : List It) (hs : a.eval s = v) (hbuf : vItems B l v w)
    (it : It) (A : Option Addr) (n k : Nat) (hit : NBuf B w (.slice A n k) it.sec)
    (ad : Addr) (c : Nat) (hx : a.eval x = .slice (some ad) 1 c) (hnews : ∀ (j : Nat) u, (itC it (.slice A n k))[j]? = some u → w.cell? (ad.add j) = some u) (hlen : l.length ≤ 1000000000)
    (h : ∀ v' w', vItems B (l ++ [it]) v' w' → Below B w w' → wpList Tryz.prog ops Q rest (a.put o.dst v') w') : wpList Tryz.prog ops Q (o :: rest) a w := by
  obtain ⟨xs, hb, hcs⟩ := hbuf
  obtain ⟨i, hi, hz, hsize, hby⟩ := info_parts info_item
  refine wpList_append_own w hgd s x 26 ho B 37 i _ 6 64 Tryz.underlying26 hi hz hsize hby rfl (by decide) v l.length xs hs hb.1 ad 1 c (itC it (.slice A n k)) hx rfl hnews (itC_one it A n k) (by unfold maxLen; omega) (by omega) hb.2 ?_
  intro v' w' h2 h3 _
  refine h v' w' ⟨xs ++ itC it (.slice A n k), ?_, (ItCells.grown hb h3 hcs).snoc (GBuf.grown (by decide) hit hb h3)⟩ (own_below hb h3)
  rw [List.length_append]
  exact ⟨h2, Nat.le_trans hb.2 h3.size⟩
/-- append(v, k) of one key, in a region that draws its order. -/
theorem step_kbuf {ops : Array Oper} {o : Oper} {a : Act} {K : Act → World → Prop} {Q : Exit → Act → World → Prop} {E : Prop} (B : Nat) (w : World) (hgd : o.guard = none) (s x : Operand)
    (ho : o.op = .call { callee := .builtin .append, args := #[s, x], argTypes := #[27, 27] }) (v : Value) (l : List Ky) (hs : a.eval s = v) (hbuf : vKeys B l v w)
    (it : Ky) (A : Option Addr) (n k : Nat) (hit : Sq.RBuf B w (.slice A n k) it.set)
    (ad : Addr) (c : Nat) (hx : a.eval x = .slice (some ad) 1 c) (hnews : ∀ (j : Nat) u, (kyC it (.slice A n k))[j]? = some u → w.cell? (ad.add j) = some u) (hlen : l.length ≤ 1000000000)
    (h : ∀ g cap w', vKeys B (l ++ [it]) (.slice (some ⟨g, 0, none⟩) (l.length + 1) cap) w' → Below B w w' → K (a.put o.dst (.slice (some ⟨g, 0, none⟩) (l.length + 1) cap)) w') : if Region.wanted o (yielded ops a.tmps) = true then Oper.wp Tryz.prog o a w K Q else E := by
  obtain ⟨xs, hb, hcs⟩ := hbuf
  obtain ⟨i, hi, hz, hsize, hby⟩ := info_parts info_key
  refine step_append_lies w hgd s x 27 ho B 39 i _ 5 64 Tryz.underlying27 hi hz hsize hby rfl (by decide) v l.length xs hs hb.1 ad 1 c (kyC it (.slice A n k)) hx rfl hnews (kyC_one it A n k) (by decide) (by unfold maxLen; omega) (by omega) hb.2 _ rfl ?_
  intro g cap w' h2 h3 _ _
  refine h g cap w' ⟨xs ++ kyC it (.slice A n k), ?_, (KyCells.grown hb h3 hcs).snoc (GBuf.grown (by decide) hit hb h3)⟩ (own_below hb h3)
  rw [List.length_append]
  exact ⟨h2, Nat.le_trans hb.2 h3.size⟩
/-- A row of one item, new. -/
theorem vItems.one {B : Nat} (w : World) (it : It) (A : Option Addr) (n k : Nat) (hB : B ≤ w.heap.size) (hit : NBuf B w (.slice A n k) it.sec) (cs : Array Value) (hcs : cs.toList = itC it (.slice A n k)) : vItems B [it] (.slice (some ⟨w.heap.size, 0, none⟩) 1 1) (w.alloc (.cells cs 37)) :=
  ⟨itC it (.slice A n k), by rw [← hcs]; exact (GBuf.lit w cs 1 (by decide) (by rw [← Array.length_toList, hcs]; rfl)).mono hB, ItCells.snoc (l := []) (xs := []) (hit.alloc _) rfl⟩
theorem vKeys.one {B : Nat} (w : World) (x : Ky) (A : Option Addr) (n k : Nat) (hB : B ≤ w.heap.size) (hit : Sq.RBuf B w (.slice A n k) x.set) (cs : Array Value) (hcs : cs.toList = kyC x (.slice A n k)) : vKeys B [x] (.slice (some ⟨w.heap.size, 0, none⟩) 1 1) (w.alloc (.cells cs 39)) :=
  ⟨kyC x (.slice A n k), by rw [← hcs]; exact (GBuf.lit w cs 1 (by decide) (by rw [← Array.length_toList, hcs]; rfl)).mono hB, KyCells.snoc (l := []) (xs := []) (hit.alloc _) rfl⟩
theorem vItems.nil {B : Nat} {w : World} (h : B ≤ w.heap.size) : vItems B [] (.slice none 0 0) w := ⟨[], GBuf.nil h, rfl⟩
theorem vKeys.nil {B : Nat} {w : World} (h : B ≤ w.heap.size) : vKeys B [] (.slice none 0 0) w := ⟨[], GBuf.nil h, rfl⟩
end Go.Proofs.YtfdmdmahddjjmaaGreatDoor
