/-
  A section.
-/
import Derived.Test.YtfdmdmahddjjmaaGreatDoorKImH
import Derived.Test.YtfdmdmahddjjmaaGreatDoorKImV
import Derived.Deep.AppendLies
namespace Go.Proofs.YtfdmdmahddjjmaaGreatDoor
open Go.RowKit Own Im
set_option linter.unusedVariables false
set_option linter.unusedSimpArgs false
set_option maxRecDepth 100000
attribute [local go_sem] str_toList str_size

def secEnd (q : (List Int × Bool) × Bt) : Option ((List Int × Int) × Bt) := if q.1.2 = true then some ((q.1.1, 0), q.2) else (whatOf q.1.1 (Im.word q.2).1).map fun k => ((q.1.1, k), (Im.word q.2).2)
theorem section_see {s : Bt} (h : Lib.hasPrefix s [93] = true) : section_ s = some (([], 0), s) := by unfold section_; rw [if_pos h]
theorem section_go {s : Bt} (h : Lib.hasPrefix s [93] = false) : section_ s = (numsL (s.length + 1) [] s).bind secEnd := by unfold section_; rw [if_neg (by rw [h]; simp)]; rfl
theorem nums_end {f : Nat} {l : List Int} {s : Bt} (h : s = [] ∨ ∃ c t, s = c :: t ∧ isDg c = false) : numsL (f + 1) l s = some ((l, false), s) := by
  rw [numsL.eq_def]
  rcases h with rfl | ⟨c, t, rfl, hc⟩
  · simp
  · simp [hc]
theorem nums_on {f : Nat} {l : List Int} {c : UInt8} {t : Bt} (h : isDg c = true) : numsL (f + 1) l (c :: t) = (number 1 99 (c :: t)).bind fun q => if l.length + 1 ≤ 8 then
        (if (takes [46] q.2).1 = true then numsL f (l ++ [q.1]) (takes [46] q.2).2 else some ((l ++ [q.1], true), q.2)) else none := by
  rw [numsL.eq_def]
  simp [h]
theorem idx_map (l : List Bt) (x : Bt) : ∀ i, Lib.idxFromS (l.map str) (str x) i = match l.findIdx? (fun y => y == x) with | some k => ((i + k : Nat) : Int) | none => -1 := by
  induction l with
  | nil => intro i; rfl
  | cons y l ih =>
    intro i
    rw [List.map_cons, Lib.idxFromS, List.findIdx?_cons]
    by_cases h : y = x
    · subst h; simp
    · rw [if_neg (fun k => h (str_inj k)), (beq_eq_false_iff_ne).2 h, ih]
      cases l.findIdx? (fun y => y == x) with
      | none => rfl
      | some k => show ((i + 1 + k : Nat) : Int) = ((i + (k + 1) : Nat) : Int); congr 1; omega
def nameI (l : List Bt) (x : Bt) : Int := match l.findIdx? (fun y => y == x) with
  | some k => k
  | none => -1
theorem names_any (l : List Bt) (x : Bt) (k : Int) (hk : nameI l x = k) (hl : l.length ≤ 10) (g c : Nat) (W : World) (hc : ∀ (j : Nat) (y : Bt), l[j]? = some y → W.cell? ⟨g, j, none⟩ = some (.string (str y))) :
    Calls Tryz.prog 123 #[.slice (some ⟨g, 0, none⟩) l.length c, .string (str x)] W fun e w' => e = .returned (.int .i64 k) ∧ w' = W := by
  refine (Tryz.slices_Index_string g 0 l.length c (l.map str) (str x) W (by simp) (by omega) (fun j hj => ?_)).mono ?_
  · rw [List.length_map] at hj
    rw [Nat.zero_add, hc j _ (List.getElem?_eq_getElem hj), List.getD_eq_getElem?_getD, List.getElem?_map, List.getElem?_eq_getElem hj]
    rfl
  · rintro e w' ⟨rfl, rfl⟩
    refine ⟨?_, rfl⟩
    rw [List.take_of_length_le (by simp), Lib.idxOfS, idx_map, ← hk]
    unfold nameI
    simp
/-- What section does: of an item's block it writes the section and what. -/
def SecPost (b c : Nat) (w : World) (k : Int) (pk : Bool) (fr of : Int) (r : Option ((List Int × Int) × Bt)) (e : Ending) (w' : World) : Prop :=
  Two b c w w' ∧ match r with
    | none => e = .panicked thrown
    | some q => e = .returned (.tuple #[]) ∧ RdI w' b q.2 ∧ ∃ sv, NBuf w.heap.size w' sv q.1.1 ∧ ItAt w' c k sv q.1.2 pk fr of
theorem SecPost.panic {b c : Nat} {w w' : World} {k : Int} {pk : Bool} {fr of : Int} {r : Option ((List Int × Int) × Bt)} (hr : r = none) (ho : Two b c w w') : SecPost b c w k pk fr of r (.panicked thrown) w' := by
  subst hr
  exact ⟨ho, rfl⟩
theorem SecPost.give {b c : Nat} {w w' : World} {k : Int} {pk : Bool} {fr of : Int} {r : Option ((List Int × Int) × Bt)} {l : List Int} {wh : Int} {t : Bt} {sv : Value} (hr : r = some ((l, wh), t)) (ho : Two b c w w') (ht : RdI w' b t) (hn : NBuf w.heap.size w' sv l) (hi : ItAt w' c k sv wh pk fr of) : SecPost b c w k pk fr of r (.returned (.tuple #[])) w' := by
  subst hr
  exact ⟨ho, rfl, ht, sv, hn, hi⟩
section
variable {w w' : World} {c : Nat} {k wh fr of : Int} {sv : Value} {pk : Bool}
theorem ItAt.c0 (h : ItAt w c k sv wh pk fr of) : w.cell? ⟨c, 0, none⟩ = some (.int .i64 k) := by rw [cells_at h]; rfl
theorem ItAt.c1 (h : ItAt w c k sv wh pk fr of) : w.cell? ⟨c, 1, none⟩ = some sv := by rw [cells_at h]; rfl
theorem ItAt.c2 (h : ItAt w c k sv wh pk fr of) : w.cell? ⟨c, 2, none⟩ = some (.int .i64 wh) := by rw [cells_at h]; rfl
theorem ItAt.c3 (h : ItAt w c k sv wh pk fr of) : w.cell? ⟨c, 3, none⟩ = some (.bool pk) := by rw [cells_at h]; rfl
theorem ItAt.c4 (h : ItAt w c k sv wh pk fr of) : w.cell? ⟨c, 4, none⟩ = some (.int .i64 fr) := by rw [cells_at h]; rfl
theorem ItAt.c5 (h : ItAt w c k sv wh pk fr of) : w.cell? ⟨c, 5, none⟩ = some (.int .i64 of) := by rw [cells_at h]; rfl
theorem ItAt.free (h : ItAt w c k sv wh pk fr of) (j : Nat) : w.frozen? ⟨c, j, none⟩ = false := by unfold World.frozen?; rw [h]; simp
theorem ItAt.lt (h : ItAt w c k sv wh pk fr of) : c < w.heap.size := lt_of_block h
theorem ItAt.below (h : ItAt w c k sv wh pk fr of) (hb : Below w.heap.size w w') : ItAt w' c k sv wh pk fr of := (hb.block c h.lt).trans h
theorem ItAt.only {b : Nat} (h : ItAt w c k sv wh pk fr of) (ho : Only b w w') (hbc : c ≠ b) : ItAt w' c k sv wh pk fr of := (ho.block hbc h.lt).trans h
theorem ItAt.set1 (h : ItAt w c k sv wh pk fr of) (x : Value) : ItAt (w.setCell ⟨c, 1, none⟩ x) c k x wh pk fr of := block_set h _
theorem ItAt.set2 (h : ItAt w c k sv wh pk fr of) (x : Int) : ItAt (w.setCell ⟨c, 2, none⟩ (.int .i64 x)) c k sv x pk fr of := block_set h _
theorem ItAt.set4 (h : ItAt w c k sv wh pk fr of) (x : Int) : ItAt (w.setCell ⟨c, 4, none⟩ (.int .i64 x)) c k sv wh pk x of := block_set h _
theorem ItAt.set5 (h : ItAt w c k sv wh pk fr of) (x : Int) : ItAt (w.setCell ⟨c, 5, none⟩ (.int .i64 x)) c k sv wh pk fr x := block_set h _
end
theorem RdI.far {w : World} {b c j : Nat} {s : Bt} (h : RdI w b s) (hbc : b < c) (x : Value) : RdI (w.setCell ⟨c, j, none⟩ x) b s :=
  ⟨(Below.heap_setCell w ⟨c, j, none⟩ x b (by simp; omega)).trans h.blk, h.len, h.good.below ((Below.refl b w).setCell (p := ⟨c, j, none⟩) (Nat.le_of_lt hbc) x) (Nat.le_refl _)⟩
theorem Only.cell {w w' : World} {b k j : Nat} {v : Value} (h : Only b w w') (hk : k ≠ b) (hc : w.cell? ⟨k, j, none⟩ = some v) : w'.cell? ⟨k, j, none⟩ = some v := by
  have hb := h.block hk (World.block_lt_of_cell? w _ hc)
  unfold World.cell? at hc ⊢
  rw [hb]
  exact hc
theorem Two.cell {w w' : World} {b c k j : Nat} {v : Value} (h : Two b c w w') (hk : k ≠ b) (hk2 : k ≠ c) (hc : w.cell? ⟨k, j, none⟩ = some v) : w'.cell? ⟨k, j, none⟩ = some v := by
  have hb := h.block hk hk2 (World.block_lt_of_cell? w _ hc)
  unfold World.cell? at hc ⊢
  rw [hb]
  exact hc
theorem setStays (w : World) (c j : Nat) (v : Value) : Stays (c + 1) w (w.setCell ⟨c, j, none⟩ v) := ⟨by simp, fun k h1 h2 => Below.heap_setCell w ⟨c, j, none⟩ v k (by simp; omega)⟩
theorem RdI.drew {w : World} {b : Nat} {s : Bt} (h : RdI w b s) : RdI w.drew b s := h.below (Below.refl _ _).drew
theorem two_cells (w : World) (l : List Bt) (cs : Array Value) (n : Nat) (hn : n = w.heap.size) (hcs : cs.toList = sv l) : ∀ (j : Nat) (y : Bt), l[j]? = some y → (w.alloc (.cells cs 9)).cell? ⟨n, j, none⟩ = some (.string (str y)) := by
  subst hn
  intro j y hy
  have := lit_cells w cs 9 (0, 0) w.heap.size rfl j (.string (str y)) (by rw [hcs]; simp [sv, hy])
  rwa [Addr.add_lit, Nat.zero_add] at this
theorem ItAt.below' {w w' : World} {c : Nat} {k wh fr of : Int} {sv : Value} {pk : Bool} {B : Nat} (h : ItAt w c k sv wh pk fr of) (hb : Below B w w') (hc : c < B) : ItAt w' c k sv wh pk fr of := (hb.block c hc).trans h
/-- append(v, n) of one number, in a region that draws its order. -/
theorem step_nbuf {ops : Array Oper} {o : Oper} {a : Act} {K : Act → World → Prop} {Q : Exit → Act → World → Prop} {E : Prop} (B : Nat) (w : World) (hgd : o.guard = none) (s x : Operand)
    (ho : o.op = .call { callee := .builtin .append, args := #[s, x], argTypes := #[35, 35] }) (v : Value) (l : List Int) (r : Int) (hs : a.eval s = v) (hbuf : NBuf B w v l)
    (ad : Addr) (c : Nat) (hx : a.eval x = .slice (some ad) 1 c) (hnews : ∀ (j : Nat) u, (nv [r])[j]? = some u → w.cell? (ad.add j) = some u) (hlen : l.length ≤ 1000000000)
    (h : ∀ g cap w', NBuf B w' (.slice (some ⟨g, 0, none⟩) (l.length + 1) cap) (l ++ [r]) → Below B w w' → K (a.put o.dst (.slice (some ⟨g, 0, none⟩) (l.length + 1) cap)) w') : if Region.wanted o (yielded ops a.tmps) = true then Oper.wp Tryz.prog o a w K Q else E := by
  obtain ⟨i, hi, hz, hsize, hby⟩ := info_parts info_int
  refine step_append_lies w hgd s x 35 ho B 3 i _ 1 8 Tryz.underlying35 hi hz hsize hby rfl (by decide) v l.length (nv l) hs hbuf.1 ad 1 c (nv [r]) hx rfl hnews (fun u hu => by simp [nv] at hu; subst hu; rfl) (by decide) (by unfold maxLen; omega) (by omega) hbuf.2 _ rfl ?_
  intro g cap w' h2 h3 _ _
  refine h g cap w' ⟨?_, Nat.le_trans hbuf.2 h3.size⟩ ⟨h3.os, h3.tape, h3.output, h3.size, fun k hk => h3.block k (by have := hbuf.2; omega) (fun e => by have := (hbuf.1.lt k e.symm).1; omega)⟩
  rw [show nv (l ++ [r]) = nv l ++ nv [r] by simp [nv], List.length_append]
  exact h2
/-- append(v, n) of one number: a step of the walk. -/
theorem wpList_nbuf {ops : Array Oper} {rest : List Oper} {o : Oper} {a : Act} {Q : Exit → Act → World → Prop} (B : Nat) (w : World) (hgd : o.guard = none) (s x : Operand)
    (ho : o.op = .call { callee := .builtin .append, args := #[s, x], argTypes := #[35, 35] }) (v : Value) (l : List Int) (n : Int) (hs : a.eval s = v) (hbuf : NBuf B w v l)
    (ad : Addr) (c : Nat) (hx : a.eval x = .slice (some ad) 1 c) (hnews : ∀ (j : Nat) u, (nv [n])[j]? = some u → w.cell? (ad.add j) = some u) (hlen : l.length ≤ 1000000000)
    (h : ∀ v' w', NBuf B w' v' (l ++ [n]) → Below B w w' → wpList Tryz.prog ops Q rest (a.put o.dst v') w') : wpList Tryz.prog ops Q (o :: rest) a w := by
  refine wpList_gbuf B w hgd s x 35 3 1 8 _ ho Tryz.underlying35 info_int rfl (by decide) v l.length (nv l) hs hbuf ad 1 c (nv [n]) hx rfl hnews (fun u hu => by simp [nv] at hu; subst hu; rfl) (by unfold maxLen; omega) (by omega) ?_
  intro v' w' h1 h2
  refine h v' w' ?_ h2
  show GBuf 3 1 B w' v' (l ++ [n]).length (nv (l ++ [n]))
  rw [List.length_append, show nv (l ++ [n]) = nv l ++ nv [n] by simp [nv]]
  exact h1
end Go.Proofs.YtfdmdmahddjjmaaGreatDoor
