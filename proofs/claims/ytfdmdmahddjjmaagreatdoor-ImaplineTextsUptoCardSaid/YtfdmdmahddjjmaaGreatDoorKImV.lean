/-
  What a command's readers leave in memory: rows of numbers, of items, of keys; the command's own block. Laws on worlds.
-/
import Derived.Test.YtfdmdmahddjjmaaGreatDoorKImD
import Derived.Test.YtfdmdmahddjjmaaGreatDoorPkAd
import Derived.Test.YtfdmdmahddjjmaaGreatDoorPkOwn
import Derived.Lib.ConvBytes
namespace Go.Proofs.YtfdmdmahddjjmaaGreatDoor
open Go.RowKit Own Im
set_option linter.unusedVariables false
set_option linter.unusedSimpArgs false
set_option maxRecDepth 100000

/-- Of old memory, blocks b and c alone may be another; b is the elder. -/
structure Two (b c : Nat) (w w' : World) : Prop where
  low : Below b w w'
  high : ∀ k, b < k → k ≠ c → k < w.heap.size → w'.heap[k]? = w.heap[k]?
section
variable {b c : Nat} {w w' w2 : World}
theorem Two.refl (b c : Nat) (w : World) : Two b c w w := ⟨Below.refl _ _, fun _ _ _ _ => rfl⟩
theorem Two.trans (h : Two b c w w') (k : Two b c w' w2) : Two b c w w2 := ⟨h.low.trans k.low, fun i h1 h2 h3 => (k.high i h1 h2 (Nat.lt_of_lt_of_le h3 h.low.size)).trans (h.high i h1 h2 h3)⟩
theorem Only.two (h : Only b w w') : Two b c w w' := ⟨h.low, fun i h1 _ h3 => h.high i h1 h3⟩
theorem Two.of (h : Below w.heap.size w w') (hb : b ≤ w.heap.size) : Two b c w w' := (Only.of h hb).two
theorem Two.set (w : World) (hbc : b < c) (j : Nat) (v : Value) : Two b c w (w.setCell ⟨c, j, none⟩ v) := ⟨(Below.refl b w).setCell (p := ⟨c, j, none⟩) (Nat.le_of_lt hbc) v, fun k _ h2 _ => Below.heap_setCell w ⟨c, j, none⟩ v k h2⟩
theorem Two.block (h : Two b c w w') {k : Nat} (hk : k ≠ b) (hc : k ≠ c) (hlt : k < w.heap.size) : w'.heap[k]? = w.heap[k]? := by
  rcases Nat.lt_or_ge k b with h1 | h1
  · exact h.low.block k h1
  · exact h.high k (by omega) hc hlt
theorem Two.size (h : Two b c w w') : w.heap.size ≤ w'.heap.size := h.low.size
/-- The younger block was made on the way. -/
theorem Two.only (h : Two b c w w') (hc : w.heap.size ≤ c) : Only b w w' := ⟨h.low, fun k h1 h2 => h.high k h1 (by omega) h2⟩
theorem Two.below {B : Nat} (h : Two b c w w') (k : Below B w' w2) (hb : b < B) (hw : w.heap.size ≤ B) : Two b c w w2 := ⟨h.low.trans (k.mono (Nat.le_of_lt hb)), fun i h1 h2 h3 => (k.block i (Nat.lt_of_lt_of_le h3 hw)).trans (h.high i h1 h2 h3)⟩
end
theorem GBuf.moved {e : TypeId} {sz B : Nat} {w w' : World} {v : Value} {n : Nat} {xs : List Value} (h : GBuf e sz B w v n xs) (hs : w.heap.size ≤ w'.heap.size) (hk : ∀ k, B ≤ k → k < w.heap.size → w'.heap[k]? = w.heap[k]?) : GBuf e sz B w' v n xs := by
  refine ⟨⟨h.1.1, ?_⟩, Nat.le_trans h.2 hs⟩
  rcases h.1.2 with hn | ⟨g, cap, cur, rfl, hb2, hg, rest⟩
  · exact .inl hn
  · exact .inr ⟨g, cap, cur, rfl, hb2, (hk g hb2 (lt_of_block hg)).trans hg, rest⟩
/-- All that lies behind B stays. -/
def Stays (B : Nat) (w w' : World) : Prop := w.heap.size ≤ w'.heap.size ∧ ∀ k, B ≤ k → k < w.heap.size → w'.heap[k]? = w.heap[k]?
theorem Only.stays {b B : Nat} {w w' : World} (h : Only b w w') (hb : b < B) : Stays B w w' := ⟨h.size, fun k h1 h2 => h.block (by omega) h2⟩
theorem Two.stays {b c B : Nat} {w w' : World} (h : Two b c w w') (hb : b < B) (hc : c < B) : Stays B w w' := ⟨h.size, fun k h1 h2 => h.block (by omega) (by omega) h2⟩
theorem Below.stays {B : Nat} {w w' : World} (h : Below w.heap.size w w') : Stays B w w' := ⟨h.size, fun k _ h2 => h.block k h2⟩
theorem Stays.mono {B C : Nat} {w w' : World} (h : Stays B w w') (hB : B ≤ C) : Stays C w w' := ⟨h.1, fun k h1 h2 => h.2 k (by omega) h2⟩
theorem GBuf.stays {e : TypeId} {sz B : Nat} {w w' : World} {v : Value} {n : Nat} {xs : List Value} (h : GBuf e sz B w v n xs) (hs : Stays B w w') : GBuf e sz B w' v n xs := h.moved hs.1 hs.2
theorem Sq.RBuf.stays {B : Nat} {w w' : World} {v : Value} {l : List Rg} (h : Sq.RBuf B w v l) (hs : Stays B w w') : Sq.RBuf B w' v l := GBuf.stays h hs
theorem SBuf.stays {B : Nat} {w w' : World} {v : Value} {l : List Bt} (h : SBuf B w v l) (hs : Stays B w w') : SBuf B w' v l := GBuf.stays h hs

theorem info_int : (Tryz.prog.info? 3).map (fun i => (i.zero, i.size, i.bytes)) = some (some (.int .i64 0), 1, 8) := by kernel_rfl
theorem info_item : (Tryz.prog.info? 37).map (fun i => (i.zero, i.size, i.bytes)) = some (some (.agg #[.int .i64 0, .slice none 0 0, .int .i64 0, .bool false, .int .i64 0, .int .i64 0]), 6, 64) := by kernel_rfl
theorem info_key : (Tryz.prog.info? 39).map (fun i => (i.zero, i.size, i.bytes)) = some (some (.agg #[.int .i64 0, .bool false, .string ByteArray.empty, .int .i64 0, .slice none 0 0]), 5, 64) := by kernel_rfl
def nv (l : List Int) : List Value := l.map fun n => .int .i64 n
/-- A row of numbers. -/
abbrev NBuf (B : Nat) (w : World) (v : Value) (l : List Int) : Prop := GBuf 3 1 B w v l.length (nv l)
/-- An item's block. -/
def ItAt (w : World) (c : Nat) (k : Int) (sv : Value) (wh : Int) (pk : Bool) (fr of : Int) : Prop := w.heap[c]? = some (.cells #[.int .i64 k, sv, .int .i64 wh, .bool pk, .int .i64 fr, .int .i64 of] 37 (0, 0))
/-- An item's cells. -/
abbrev itC (it : It) (sv : Value) : List Value := [.int .i64 it.kind, sv, .int .i64 it.what, .bool it.peek, .int .i64 it.frm, .int .i64 it.of]
abbrev vItem (B : Nat) : It → Value → World → Prop := fun it v w => ∃ sv, v = .agg #[.int .i64 it.kind, sv, .int .i64 it.what, .bool it.peek, .int .i64 it.frm, .int .i64 it.of] ∧ NBuf B w sv it.sec
/-- The cells of a row of items. -/
def ItCells (B : Nat) (w : World) : List It → List Value → Prop
  | [], xs => xs = []
  | it :: l, xs => ∃ sv r, xs = itC it sv ++ r ∧ NBuf B w sv it.sec ∧ ItCells B w l r
abbrev vItems (B : Nat) : List It → Value → World → Prop := fun l v w => ∃ xs, GBuf 37 6 B w v l.length xs ∧ ItCells B w l xs
abbrev kyC (k : Ky) (sv : Value) : List Value := [.int .i64 k.kind, .bool k.not, .string (str k.text), .int .i64 k.n, sv]
abbrev vKey (B : Nat) : Ky → Value → World → Prop := fun k v w => ∃ sv, v = .agg #[.int .i64 k.kind, .bool k.not, .string (str k.text), .int .i64 k.n, sv] ∧ Sq.RBuf B w sv k.set
def KyCells (B : Nat) (w : World) : List Ky → List Value → Prop
  | [], xs => xs = []
  | k :: l, xs => ∃ sv r, xs = kyC k sv ++ r ∧ Sq.RBuf B w sv k.set ∧ KyCells B w l r
abbrev vKeys (B : Nat) : List Ky → Value → World → Prop := fun l v w => ∃ xs, GBuf 39 5 B w v l.length xs ∧ KyCells B w l xs

theorem ItCells.stays {B : Nat} {w w' : World} (hs : Stays B w w') : ∀ {l : List It} {xs : List Value}, ItCells B w l xs → ItCells B w' l xs
  | [], _, h => h
  | it :: l, xs, ⟨sv, r, h1, h2, h3⟩ => ⟨sv, r, h1, h2.stays hs, ItCells.stays hs h3⟩
theorem KyCells.stays {B : Nat} {w w' : World} (hs : Stays B w w') : ∀ {l : List Ky} {xs : List Value}, KyCells B w l xs → KyCells B w' l xs
  | [], _, h => h
  | k :: l, xs, ⟨sv, r, h1, h2, h3⟩ => ⟨sv, r, h1, h2.stays hs, KyCells.stays hs h3⟩
theorem ItCells.mono {B C : Nat} {w : World} (hB : C ≤ B) : ∀ {l : List It} {xs : List Value}, ItCells B w l xs → ItCells C w l xs
  | [], _, h => h
  | it :: l, xs, ⟨sv, r, h1, h2, h3⟩ => ⟨sv, r, h1, h2.mono hB, ItCells.mono hB h3⟩
theorem KyCells.mono {B C : Nat} {w : World} (hB : C ≤ B) : ∀ {l : List Ky} {xs : List Value}, KyCells B w l xs → KyCells C w l xs
  | [], _, h => h
  | k :: l, xs, ⟨sv, r, h1, h2, h3⟩ => ⟨sv, r, h1, h2.mono hB, KyCells.mono hB h3⟩
theorem ItCells.snoc {B : Nat} {w : World} {it : It} {sv : Value} (hv : NBuf B w sv it.sec) : ∀ {l : List It} {xs : List Value}, ItCells B w l xs → ItCells B w (l ++ [it]) (xs ++ itC it sv)
  | [], xs, h => by
    have h : xs = [] := h
    subst h
    exact ⟨sv, [], by simp, hv, rfl⟩
  | i :: l, xs, ⟨s, r, h1, h2, h3⟩ => ⟨s, r ++ itC it sv, by rw [h1, List.append_assoc], h2, ItCells.snoc hv h3⟩
theorem KyCells.snoc {B : Nat} {w : World} {k : Ky} {sv : Value} (hv : Sq.RBuf B w sv k.set) : ∀ {l : List Ky} {xs : List Value}, KyCells B w l xs → KyCells B w (l ++ [k]) (xs ++ kyC k sv)
  | [], xs, h => by
    have h : xs = [] := h
    subst h
    exact ⟨sv, [], by simp, hv, rfl⟩
  | i :: l, xs, ⟨s, r, h1, h2, h3⟩ => ⟨s, r ++ kyC k sv, by rw [h1, List.append_assoc], h2, KyCells.snoc hv h3⟩
theorem vItem.stays {B : Nat} {w w' : World} {it : It} {v : Value} (h : vItem B it v w) (hs : Stays B w w') : vItem B it v w' := by
  obtain ⟨sv, h1, h2⟩ := h
  exact ⟨sv, h1, h2.stays hs⟩
theorem vItems.stays {B : Nat} {w w' : World} {l : List It} {v : Value} (h : vItems B l v w) (hs : Stays B w w') : vItems B l v w' := by
  obtain ⟨xs, h1, h2⟩ := h
  exact ⟨xs, h1.stays hs, h2.stays hs⟩
theorem vKey.stays {B : Nat} {w w' : World} {k : Ky} {v : Value} (h : vKey B k v w) (hs : Stays B w w') : vKey B k v w' := by
  obtain ⟨sv, h1, h2⟩ := h
  exact ⟨sv, h1, h2.stays hs⟩
theorem vKeys.stays {B : Nat} {w w' : World} {l : List Ky} {v : Value} (h : vKeys B l v w) (hs : Stays B w w') : vKeys B l v w' := by
  obtain ⟨xs, h1, h2⟩ := h
  exact ⟨xs, h1.stays hs, h2.stays hs⟩
theorem vItem.mono {B C : Nat} {w : World} {it : It} {v : Value} (h : vItem B it v w) (hB : C ≤ B) : vItem C it v w := by
  obtain ⟨sv, h1, h2⟩ := h
  exact ⟨sv, h1, h2.mono hB⟩
theorem vItems.mono {B C : Nat} {w : World} {l : List It} {v : Value} (h : vItems B l v w) (hB : C ≤ B) : vItems C l v w := by
  obtain ⟨xs, h1, h2⟩ := h
  exact ⟨xs, h1.mono hB, h2.mono hB⟩
theorem vKey.mono {B C : Nat} {w : World} {k : Ky} {v : Value} (h : vKey B k v w) (hB : C ≤ B) : vKey C k v w := by
  obtain ⟨sv, h1, h2⟩ := h
  exact ⟨sv, h1, h2.mono hB⟩
theorem vKeys.mono {B C : Nat} {w : World} {l : List Ky} {v : Value} (h : vKeys B l v w) (hB : C ≤ B) : vKeys C l v w := by
  obtain ⟨xs, h1, h2⟩ := h
  exact ⟨xs, h1.mono hB, h2.mono hB⟩

/-- A row of bytes that nobody writes: v is these bytes, in memory made behind B; its block may bear the mark of a conversion. -/
def LBuf (B : Nat) (w : World) (v : Value) (l : Bt) : Prop :=
  ∃ A c, v = .slice A l.length c ∧ l.length ≤ c ∧ (A = none → l = []) ∧ B ≤ w.heap.size ∧ ∀ p, A = some p → ∃ g cs f, p = ⟨g, 0, none⟩ ∧ B ≤ g ∧ w.heap[g]? = some (.cells cs 5 f) ∧ ∀ (j : Nat) u, (bv l)[j]? = some u → cs[j]? = some u
theorem LBuf.nil {B : Nat} {w : World} (h : B ≤ w.heap.size) : LBuf B w (.slice none 0 0) [] := ⟨none, 0, rfl, Nat.le_refl _, fun _ => rfl, h, fun p hp => by cases hp⟩
theorem LBuf.full {B : Nat} {w : World} {v : Value} {l : Bt} (h : LBuf B w v l) : ∃ A c, v = .slice A l.length c ∧ l.length ≤ c ∧ (A = none → l = []) ∧ B ≤ w.heap.size ∧ ∀ p, A = some p → ∃ g cs f, p = ⟨g, 0, none⟩ ∧ B ≤ g ∧ w.heap[g]? = some (.cells cs 5 f) ∧ ∀ (j : Nat) u, (bv l)[j]? = some u → cs[j]? = some u := h
theorem LBuf.stays {B : Nat} {w w' : World} {v : Value} {l : Bt} (h : LBuf B w v l) (hs : Stays B w w') : LBuf B w' v l := by
  obtain ⟨A, c, h1, h2, h3, h4, h5⟩ := h
  refine ⟨A, c, h1, h2, h3, Nat.le_trans h4 hs.1, fun p hp => ?_⟩
  obtain ⟨g, cs, f, e1, e2, e3, e4⟩ := h5 p hp
  exact ⟨g, cs, f, e1, e2, (hs.2 g e2 (lt_of_block e3)).trans e3, e4⟩
theorem LBuf.mono {B C : Nat} {w : World} {v : Value} {l : Bt} (h : LBuf B w v l) (hB : C ≤ B) : LBuf C w v l := by
  obtain ⟨A, c, h1, h2, h3, h4, h5⟩ := h
  refine ⟨A, c, h1, h2, h3, Nat.le_trans hB h4, fun p hp => ?_⟩
  obtain ⟨g, cs, f, e1, e2, e3, e4⟩ := h5 p hp
  exact ⟨g, cs, f, e1, Nat.le_trans hB e2, e3, e4⟩
theorem LBuf.bytes (w : World) (l : Bt) (n c : Nat) (hn : n = l.length) (hc : n ≤ c) : LBuf w.heap.size (Lib.bytesWorld w 5 (str l)) (.slice (some ⟨w.heap.size, 0, none⟩) n c) l := by
  subst hn
  have hz := Lib.bytesWorld_size w 5 (str l)
  refine ⟨_, c, rfl, hc, (fun h => by cases h), by omega, fun p hp => ?_⟩
  cases hp
  refine ⟨_, _, _, rfl, Nat.le_refl _, Lib.bytesWorld_at_new w 5 (str l), fun j u hu => ?_⟩
  unfold bv at hu
  rw [List.getElem?_map] at hu
  obtain ⟨x, hx, rfl⟩ := Option.map_eq_some_iff.1 hu
  obtain ⟨hj, hx⟩ := List.getElem?_eq_some_iff.1 hx
  unfold Lib.bytesCells
  have hj2 : j < ((str l).data.map fun b => Value.int .u8 b.toNat).size := by rw [Array.size_map]; exact hj
  rw [Array.getElem?_append_left hj2, Array.getElem?_map, show (str l).data[j]? = some x from by rw [← hx]; exact (Array.getElem?_eq_getElem (xs := (str l).data) hj).trans rfl]
  rfl

/-- The values of a command's fields. -/
structure CmV where
  set : Value
  names : Value
  items : Value
  keys : Value
  lit : Value
abbrev cmC (x : Cm) (v : CmV) : Array Value := #[.string (str x.tag), .string (str x.word), .bool x.uid, v.set, .string (str x.box), .string (str x.dest), v.names, .int .i64 x.flags, .int .i64 x.mode, .bool x.silent, v.items, v.keys, .int .i64 x.date, v.lit]
/-- The rows of a command. -/
structure CmRows (B : Nat) (w : World) (x : Cm) (v : CmV) : Prop where
  set : Sq.RBuf B w v.set x.set
  names : SBuf B w v.names x.names
  items : vItems B x.items v.items w
  keys : vKeys B x.keys v.keys w
  lit : LBuf B w v.lit x.lit
theorem CmRows.stays {B : Nat} {w w' : World} {x : Cm} {v : CmV} (h : CmRows B w x v) (hs : Stays B w w') : CmRows B w' x v := ⟨h.set.stays hs, h.names.stays hs, h.items.stays hs, h.keys.stays hs, h.lit.stays hs⟩
theorem CmRows.mono {B C : Nat} {w : World} {x : Cm} {v : CmV} (h : CmRows B w x v) (hB : C ≤ B) : CmRows C w x v := ⟨h.set.mono hB, h.names.mono hB, h.items.mono hB, h.keys.mono hB, h.lit.mono hB⟩
/-- A command's block. -/
def CmAt (w : World) (c : Nat) (x : Cm) (v : CmV) : Prop := w.heap[c]? = some (.cells (cmC x v) 30 (0, 0))

theorem takes_cases {b : Nat} {w w' : World} {t s : Bt} {e : Ending} (h : e = .returned (.bool (takes t s).1) ∧ RdI w' b (takes t s).2 ∧ Only b w w') :
    (∃ q, takes t s = (false, q) ∧ e = .returned (.bool false) ∧ RdI w' b q ∧ Only b w w') ∨ ∃ q, takes t s = (true, q) ∧ e = .returned (.bool true) ∧ RdI w' b q ∧ Only b w w' := by
  obtain ⟨k, q, hk⟩ : ∃ k q, takes t s = (k, q) := ⟨_, _, rfl⟩
  rw [hk] at h ⊢
  cases k
  · exact .inl ⟨q, rfl, h⟩
  · exact .inr ⟨q, rfl, h⟩
theorem bool_split {k : Bool} {e : Ending} (h : e = .returned (.bool k)) : (k = false ∧ e = .returned (.bool false)) ∨ (k = true ∧ e = .returned (.bool true)) := by
  cases k
  · exact .inl ⟨rfl, h⟩
  · exact .inr ⟨rfl, h⟩

/-- How long a reader's text is. -/
def rdLen (b : Nat) (w : World) : Nat := match w.cell? ⟨b, 0, none⟩ with
  | some (.string t) => t.size
  | _ => 0
theorem rdLen_of {b : Nat} {w : World} {s : Bt} (h : RdI w b s) : rdLen b w = s.length := by
  unfold rdLen
  rw [h.c]
  exact str_size s
end Go.Proofs.YtfdmdmahddjjmaaGreatDoor
