/-
  Rows of ranges and of texts; a text split; a set's number.
-/
import Derived.Test.YtifjikpinmgfaaaDoorSet
import Derived.Test.YtifjikpinmgfaaaDoorGBuf
import Derived.Test.YtifjikpinmgfaaaDoorRHas
namespace Go.Proofs.YtifjikpinmgfaaaDoor
open Go.RowKit Own Dec Sq
set_option linter.unusedVariables false
set_option linter.unusedSimpArgs false
set_option maxRecDepth 100000

theorem info_range : (Tryd.prog.info? 30).map (fun i => (i.zero, i.size, i.bytes)) = some (some (.agg #[.int .i64 0, .int .i64 0]), 2, 16) := by kernel_rfl
def rv (l : List Rg) : List Value := l.flatMap fun r => [.int .i64 r.1, .int .i64 r.2]
theorem rv_cons (r : Rg) (l : List Rg) : rv (r :: l) = [.int .i64 r.1, .int .i64 r.2] ++ rv l := by simp [rv]
theorem rv_append (l m : List Rg) : rv (l ++ m) = rv l ++ rv m := by simp [rv]
theorem rv_len (l : List Rg) : (rv l).length = l.length * 2 := by
  induction l with
  | nil => rfl
  | cons r l ih => rw [rv_cons, List.length_append, ih]; simp; omega
theorem rv_at : ∀ {l : List Rg} {j : Nat} {r : Rg}, l[j]? = some r → (rv l)[j * 2]? = some (.int .i64 r.1) ∧ (rv l)[j * 2 + 1]? = some (.int .i64 r.2)
  | [], j, r, h => by simp at h
  | x :: l, 0, r, h => by
    obtain rfl : x = r := by simpa using h
    rw [rv_cons]
    exact ⟨rfl, rfl⟩
  | x :: l, j + 1, r, h => by
    have := rv_at (l := l) (j := j) (r := r) (by simpa using h)
    rw [rv_cons, show (j + 1) * 2 = j * 2 + 2 by omega]
    exact ⟨by simpa using this.1, by simpa using this.2⟩
theorem rv_one (l : List Rg) : ∀ u ∈ rv l, u.oneCell' = true := by
  intro u hu
  simp only [rv, List.mem_flatMap] at hu
  obtain ⟨r, _, h⟩ := hu
  simp at h
  rcases h with rfl | rfl <;> rfl
/-- A row of ranges of one's own. -/
def RBuf (B : Nat) (w : World) (v : Value) (l : List Rg) : Prop := GBuf 30 2 B w v l.length (rv l)
theorem RBuf.keep {B : Nat} {w w' : World} {v : Value} {l : List Rg} (h : RBuf B w v l) (hb : Below w.heap.size w w') : RBuf B w' v l := GBuf.keep h hb
theorem RBuf.alloc {B : Nat} {w : World} {v : Value} {l : List Rg} (h : RBuf B w v l) (o : Obj) : RBuf B (w.alloc o) v l := GBuf.alloc h o
theorem RBuf.mono {B B2 : Nat} {w : World} {v : Value} {l : List Rg} (h : RBuf B2 w v l) (hB : B ≤ B2) : RBuf B w v l := GBuf.mono h hB
theorem RBuf.nil {B : Nat} {w : World} (h : B ≤ w.heap.size) : RBuf B w (.slice none 0 0) [] := GBuf.nil h
theorem RBuf.size {B : Nat} {w : World} {v : Value} {l : List Rg} (h : RBuf B w v l) : B ≤ w.heap.size := h.2
theorem RBuf.full {B : Nat} {w : World} {v : Value} {l : List Rg} (h : RBuf B w v l) : ∃ A c, v = .slice A l.length c ∧ l.length ≤ c ∧ SrcR w A l := by
  obtain ⟨A, c, hv, hc, h1, h2⟩ := GBuf.full h
  refine ⟨A, c, hv, hc, (fun ha => List.eq_nil_of_length_eq_zero (h1 ha).1), fun p hp j r hr => ?_⟩
  obtain ⟨g, rfl, _, hcell⟩ := h2 p hp
  obtain ⟨k1, k2⟩ := rv_at hr
  rw [Addr.add_lit, Addr.add_lit, Nat.zero_add, Nat.zero_add]
  exact ⟨hcell _ _ k1, hcell _ _ k2⟩
theorem RBuf.lit (w : World) (l : List Rg) (cs : Array Value) (fr : Nat × Nat) (n : Nat) (hn : n = w.heap.size) (h : cs.toList = rv l) : SrcR (w.alloc (.cells cs 30 fr)) (some ⟨n, 0, none⟩) l := by
  refine ⟨(fun hh => by cases hh), fun p hp j r hr => ?_⟩
  obtain rfl : (⟨n, 0, none⟩ : Addr) = p := Option.some.inj hp
  obtain ⟨k1, k2⟩ := rv_at hr
  rw [← h] at k1 k2
  exact ⟨lit_cells w cs _ fr n hn _ _ k1, lit_cells w cs _ fr n hn _ _ k2⟩
/-- append(v, r) of one range: a step of the walk. -/
theorem wpList_rbuf {ops : Array Oper} {rest : List Oper} {o : Oper} {a : Act} {Q : Exit → Act → World → Prop} (B : Nat) (w : World) (hgd : o.guard = none) (s x : Operand)
    (ho : o.op = .call { callee := .builtin .append, args := #[s, x], argTypes := #[22, 22] }) (v : Value) (l : List Rg) (r : Rg) (hs : a.eval s = v) (hbuf : RBuf B w v l)
    (ad : Addr) (c : Nat) (hx : a.eval x = .slice (some ad) 1 c) (hnews : ∀ j u, (rv [r])[j]? = some u → w.cell? (ad.add j) = some u) (hlen : l.length ≤ 1000000000)
    (h : ∀ v' w', RBuf B w' v' (l ++ [r]) → Below B w w' → wpList Tryd.prog ops Q rest (a.put o.dst v') w') : wpList Tryd.prog ops Q (o :: rest) a w := by
  refine wpList_gbuf B w hgd s x 22 30 2 16 _ ho Tryd.underlying22 info_range rfl (by decide) v l.length (rv l) hs hbuf ad 1 c (rv [r]) hx rfl hnews (rv_one [r]) (by unfold maxLen; omega) (by omega) ?_
  intro v' w' h1 h2
  refine h v' w' ?_ h2
  unfold RBuf
  rw [rv_append, List.length_append]
  exact h1
theorem rlit (w : World) (r : Rg) (cs : Array Value) (fr : Nat × Nat) (n : Nat) (hn : n = w.heap.size) (h : cs.toList = rv [r]) : ∀ j u, (rv [r])[j]? = some u → (w.alloc (.cells cs 30 fr)).cell? ((⟨n, 0, none⟩ : Addr).add j) = some u := by
  rw [← h]
  exact lit_cells w cs _ fr n hn

/-- A row of texts that is read only. -/
def SrcS (w : World) (A : Option Addr) (l : List (List UInt8)) : Prop := Src w A (l.map fun s => .string (str s))
theorem srcS_at {w : World} {p : Addr} {l : List (List UInt8)} (h : SrcS w (some p) l) {j : Nat} {x : List UInt8} (hx : l[j]? = some x) : w.cell? (p.add j) = some (.string (str x)) := h.2 p rfl j _ (by simp [hx])

theorem list_str (xs : List ByteArray) : (xs.map (·.data.toList)).map str = xs := by
  rw [List.map_map]
  conv => rhs; rw [← List.map_id xs]
  apply List.map_congr_left
  intro x _
  simp [str]
theorem splitB_str (c : UInt8) (l : List UInt8) : Lib.splitB (str [c]) 0 (Lib.countB (str l) (str [c])) (str l) = (Spl.splitL c l).map str := by
  have h := Lib.splitB_data (str [c]) 0 (Lib.countB (str l) (str [c])) (str l)
  have h2 := Spl.split_eq c l.length l (Nat.le_refl _)
  rw [← list_str (Lib.splitB _ _ _ _), h, ← h2]
  rfl
theorem split_any (c : UInt8) (l : List UInt8) (w : World) (hG : GoodC w) (hl : l.length ≤ 2147483648) :
    Calls Tryd.prog 21 #[.string (str l), .string (str [c])] w fun e w' => e = .returned (.slice (some ⟨w.heap.size, 0, none⟩) (Spl.splitL c l).length (Spl.splitL c l).length) ∧ SrcS w' (some ⟨w.heap.size, 0, none⟩) (Spl.splitL c l) ∧ Below w.heap.size w w' := by
  obtain ⟨m, hm⟩ := hG.max
  refine (Tryd.strings_Split (str l) (str [c]) m w (by rw [str_size]; omega) hm (by rw [str_size]; simp)).mono ?_
  rintro e w' ⟨rfl, rfl⟩
  have hlen : (Lib.splitB (str [c]) 0 (Lib.countB (str l) (str [c])) (str l)).length = Lib.countB (str l) (str [c]) + 1 := Lib.splitB_all (str [c]) (by rw [str_size]; simp) 0 _ _ rfl
  rw [splitB_str, List.length_map] at hlen
  rw [hlen, splitB_str, List.map_map]
  exact ⟨rfl, src_lit w _ _ _, (Below.refl _ _).alloc (Nat.le_refl _) _⟩
theorem cut_any (c : UInt8) (l : List UInt8) (w : World) (hG : GoodC w) (hl : l.length ≤ 2147483648) :
    Calls Tryd.prog 22 #[.string (str l), .string (str [c])] w fun e w' => e = .returned (.tuple #[.string (str (Lib.cut l [c]).1), .string (str (Lib.cut l [c]).2.1), .bool (Lib.cut l [c]).2.2]) ∧ Below w.heap.size w w' := by
  obtain ⟨m, hm⟩ := hG.max
  refine (Tryd.strings_Cut (str l) (str [c]) m w (by rw [str_size]; omega) hm).mono ?_
  rintro e w' ⟨rfl, q, rfl⟩
  exact ⟨rfl, below_dn' w q⟩
where
  below_dn' (w : World) (q : Nat) : Below w.heap.size w (w.drewN q) := ⟨rfl, rfl, rfl, Nat.le_refl _, fun _ _ => rfl⟩

attribute [local go_sem] str_toList
theorem numS_any (l : List UInt8) (w : World) (hG : GoodC w) :
    Calls Tryd.prog 23 #[.string (str l)] w fun e w' => e = .returned (.tuple #[.int .i64 (numS l).1, .bool (numS l).2]) ∧ Below w.heap.size w w' := by
  by_cases h : l = [42]
  · have e1 : (l == [42]) = true := by simpa using h
    have hn : numS l = (0, true) := by unfold numS; rw [if_pos h]
    rw [hn]
    clear h hn
    go_enter Tryd.func23, Tryd.ntmps23
    go_wp2
    exact bodyPost_ret (v := .tuple #[.int .i64 0, .bool true]) (by simp [results, Tryd.results23, go_sem]) rfl ⟨rfl, Below.refl _ _⟩
  · have e1 : (l == [42]) = false := by simpa using h
    have hn : numS l = ((numR l 4294967295).1, (numR l 4294967295).2 && decide (0 < (numR l 4294967295).1)) := by unfold numS; rw [if_neg h]
    rw [hn]
    have hnum := fun W g => number_any l 4294967295 W g
    obtain ⟨n, b, hnb⟩ : ∃ n b, numR l 4294967295 = (n, b) := ⟨_, _, rfl⟩
    rw [hnb] at hnum ⊢
    clear h hn hnb
    cases b with
    | false =>
      go_enter Tryd.func23, Tryd.ntmps23
      go_wp2_with (go_at_call 33; refine (hnum _ hG).mono ?_; rintro e w1 ⟨rfl, hb1⟩)
      exact bodyPost_ret (v := .tuple #[.int .i64 n, .bool false]) (by simp [results, Tryd.results23, go_sem]) rfl ⟨rfl, hb1⟩
    | true =>
      go_enter Tryd.func23, Tryd.ntmps23
      go_wp2_with (go_at_call 33; refine (hnum _ hG).mono ?_; rintro e w1 ⟨rfl, hb1⟩)
      exact bodyPost_ret (v := .tuple #[.int .i64 n, .bool (decide (0 < n))]) (by simp [results, Tryd.results23, go_sem]) rfl ⟨rfl, hb1⟩
theorem rnumS_any (l : List UInt8) (w : World) (hl : l.length ≤ 2147483648) :
    Calls Tryd.prog 25 #[.string (str l)] w fun e w' => e = .returned (.tuple #[.int .i64 (numS l).1, .bool (numS l).2]) ∧ Below w.heap.size w w' := by
  by_cases h : l = [42]
  · have e1 : (l == [42]) = true := by simpa using h
    have hn : numS l = (0, true) := by unfold numS; rw [if_pos h]
    rw [hn]
    clear h hn
    go_enter Tryd.func25, Tryd.ntmps25
    go_wp2
    exact bodyPost_ret (v := .tuple #[.int .i64 0, .bool true]) (by simp [results, Tryd.results25, go_sem]) rfl ⟨rfl, Below.refl _ _⟩
  · have e1 : (l == [42]) = false := by simpa using h
    have hn : numS l = ((numR l 4294967295).1, (numR l 4294967295).2 && decide (0 < (numR l 4294967295).1)) := by unfold numS; rw [if_neg h]
    rw [hn]
    have hnum := fun W => rnumber_any l 4294967295 W (by omega)
    obtain ⟨n, b, hnb⟩ : ∃ n b, numR l 4294967295 = (n, b) := ⟨_, _, rfl⟩
    rw [hnb] at hnum ⊢
    clear h hn hnb
    cases b with
    | false =>
      go_enter Tryd.func25, Tryd.ntmps25
      go_wp2_with (go_at_call 34; refine (hnum _).mono ?_; rintro e w1 ⟨rfl, hb1⟩)
      exact bodyPost_ret (v := .tuple #[.int .i64 n, .bool false]) (by simp [results, Tryd.results25, go_sem]) rfl ⟨rfl, hb1⟩
    | true =>
      go_enter Tryd.func25, Tryd.ntmps25
      go_wp2_with (go_at_call 34; refine (hnum _).mono ?_; rintro e w1 ⟨rfl, hb1⟩)
      exact bodyPost_ret (v := .tuple #[.int .i64 n, .bool (decide (0 < n))]) (by simp [results, Tryd.results25, go_sem]) rfl ⟨rfl, hb1⟩

end Go.Proofs.YtifjikpinmgfaaaDoor
