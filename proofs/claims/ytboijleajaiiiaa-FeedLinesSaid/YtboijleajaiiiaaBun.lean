/-
  Two feeds and two rows side by side: whose block is whose is told by colours.
-/
import Derived.Test.YtboijleajaiiiaaNeeds
namespace Go.Proofs.Ytboijleajaiiiaa
open Go.RowKit Own
set_option linter.unusedVariables false
set_option linter.unusedSimpArgs false

/-- The blocks of colour c, from B on, that lie in w. -/
def Col (B : Nat) (col : Nat → Nat) (w : World) (c : Nat) : Nat → Prop := fun k => B ≤ k ∧ k < w.heap.size ∧ col k = c
/-- What is new gets colour c. -/
def upd (col : Nat → Nat) (w : World) (c : Nat) : Nat → Nat := fun k => if k < w.heap.size then col k else c

section
variable {B : Nat} {col : Nat → Nat} {w w' : World} {c d : Nat}

theorem col_ext (hB : B ≤ w.heap.size) (hs : w.heap.size ≤ w'.heap.size) {k : Nat} (h : ext (Col B col w c) w w' k) : Col B (upd col w c) w' c k := by
  rcases h with ⟨h1, h2, h3⟩ | ⟨h1, h2⟩
  · exact ⟨h1, by omega, by unfold upd; rw [if_pos h2]; exact h3⟩
  · exact ⟨by omega, h2, by unfold upd; rw [if_neg (by omega)]⟩
theorem col_new (hB : B ≤ w.heap.size) {k : Nat} (h1 : w.heap.size ≤ k) (h2 : k < w'.heap.size) : Col B (upd col w c) w' c k := ⟨by omega, h2, by unfold upd; rw [if_neg (by omega)]⟩
theorem col_old (hs : w.heap.size ≤ w'.heap.size) {k : Nat} (h : Col B col w d k) : Col B (upd col w c) w' d k :=
  ⟨h.1, by have := h.2.1; omega, by unfold upd; rw [if_pos h.2.1]; exact h.2.2⟩
end

/-- Strings as cells. -/
def sv (l : List ByteArray) : List Value := l.map fun x => .string x
theorem iv_one (l : List Int) : ∀ u ∈ iv l, u.oneCell' = true := by
  intro u hu
  simp [iv] at hu
  obtain ⟨b, _, rfl⟩ := hu
  rfl
theorem sv_one (l : List ByteArray) : ∀ u ∈ sv l, u.oneCell' = true := by
  intro u hu
  simp [sv] at hu
  obtain ⟨b, _, rfl⟩ := hu
  rfl
theorem info_int : (Try.prog.info? 3).map (fun i => (i.zero, i.size, i.bytes)) = some (some (.int .i64 0), 1, 8) := by kernel_rfl
theorem info_str : (Try.prog.info? 9).map (fun i => (i.zero, i.size, i.bytes)) = some (some (.string ⟨#[]⟩), 1, 16) := by kernel_rfl

/-- The two feeds, the row of kinds, the row of texts. -/
structure Inv4 (B : Nat) (col : Nat → Nat) (w : World) (gx gy : Nat) (m : Int) (bx by_ : List UInt8) (vk : Value) (ks : List Int) (vt : Value) (ts : List ByteArray) : Prop where
  x : Feed (Col B col w 1) w gx m bx false 0
  y : Feed (Col B col w 2) w gy m by_ false 0
  k : Row 3 (Col B col w 3) w vk (iv ks)
  t : Row 9 (Col B col w 4) w vt (sv ts)

section
variable {B : Nat} {col : Nat → Nat} {w w' : World} {gx gy : Nat} {m : Int} {bx by_ bx' by' : List UInt8} {vk vk' : Value} {ks ks' : List Int} {vt vt' : Value} {ts ts' : List ByteArray} {S' : Nat → Prop}

theorem Feed.old {T : Nat → Prop} {g : Nat} {most wn : Int} {bs : List UInt8} {wb : Bool} {c d : Nat} (h : Feed (Col B col w d) w g most bs wb wn) (hf : Fr T w w') (hT : ∀ k, T k → Col B col w c k ∨ w.heap.size ≤ k) (hcd : d ≠ c) : Feed (Col B (upd col w c) w' d) w' g most bs wb wn :=
  (h.fr hf (fun k hk ht => (hT k ht).elim (fun h2 => hcd (hk.2.2.symm.trans h2.2.2)) (fun h2 => by have := hk.2.1; omega))).mono fun k hk => col_old hf.size hk
theorem Row.old {T : Nat → Prop} {e : TypeId} {v : Value} {xs : List Value} {c d : Nat} (h : Row e (Col B col w d) w v xs) (hf : Fr T w w') (hT : ∀ k, T k → Col B col w c k ∨ w.heap.size ≤ k) (hcd : d ≠ c) : Row e (Col B (upd col w c) w' d) w' v xs :=
  (h.fr hf (fun k hk ht => (hT k ht).elim (fun h2 => hcd (hk.2.2.symm.trans h2.2.2)) (fun h2 => by have := hk.2.1; omega))).mono fun k hk => col_old hf.size hk
theorem Src.old {T : Nat → Prop} {A : Option Addr} {xs : List Value} {c d : Nat} (h : Src w A xs) (hf : Fr T w w') (hT : ∀ k, T k → Col B col w c k ∨ w.heap.size ≤ k) (hcd : d ≠ c) (hA : ∀ p, A = some p → Col B col w d p.block) : Src w' A xs :=
  h.fr hf (fun p hp ht => (hT _ ht).elim (fun h2 => hcd ((hA p hp).2.2.symm.trans h2.2.2)) (fun h2 => by have := (hA p hp).2.1; omega))

theorem Inv4.stx (h : Inv4 B col w gx gy m bx by_ vk ks vt ts) : St B (Col B col w 1) w gx m bx false 0 := ⟨fun k hk => hk.2.1, fun k hk => hk.1, h.x⟩
theorem Inv4.sty (h : Inv4 B col w gx gy m bx by_ vk ks vt ts) : St B (Col B col w 2) w gy m by_ false 0 := ⟨fun k hk => hk.2.1, fun k hk => hk.1, h.y⟩

theorem Inv4.step_x (h : Inv4 B col w gx gy m bx by_ vk ks vt ts) (hB : B ≤ w.heap.size) (hF : St B S' w' gx m bx' false 0) (hs : Step (Col B col w 1) S' w w') : Inv4 B (upd col w 1) w' gx gy m bx' by_ vk ks vt ts :=
  ⟨hF.feed.mono fun k hk => col_ext hB hs.fr.size (hs.sub k hk), h.y.old (c := 1) hs.fr (fun k hk => .inl hk) (by decide), Row.old h.k hs.fr (fun k hk => .inl hk) (by decide), Row.old h.t hs.fr (fun k hk => .inl hk) (by decide)⟩
theorem Inv4.step_y (h : Inv4 B col w gx gy m bx by_ vk ks vt ts) (hB : B ≤ w.heap.size) (hF : St B S' w' gy m by' false 0) (hs : Step (Col B col w 2) S' w w') : Inv4 B (upd col w 2) w' gx gy m bx by' vk ks vt ts :=
  ⟨h.x.old (c := 2) hs.fr (fun k hk => .inl hk) (by decide), hF.feed.mono fun k hk => col_ext hB hs.fr.size (hs.sub k hk), Row.old h.k hs.fr (fun k hk => .inl hk) (by decide), Row.old h.t hs.fr (fun k hk => .inl hk) (by decide)⟩
theorem Inv4.step_k (h : Inv4 B col w gx gy m bx by_ vk ks vt ts) (hB : B ≤ w.heap.size) (hr : Row 3 (fun k => Col B col w 3 k ∨ k = w.heap.size ∧ k < w'.heap.size) w' vk' (iv ks')) (hf : Fr (fun k => vk.ownBlock = some k) w w') : Inv4 B (upd col w 3) w' gx gy m bx by_ vk' ks' vt ts :=
  have hT : ∀ k, vk.ownBlock = some k → Col B col w 3 k ∨ w.heap.size ≤ k := fun k hk => .inl (h.k.2 k hk)
  ⟨h.x.old hf hT (by decide), h.y.old hf hT (by decide), hr.mono fun k hk => col_ext hB hf.size (hk.imp id fun h2 => ⟨by omega, h2.2⟩), Row.old h.t hf hT (by decide)⟩
theorem Inv4.step_t (h : Inv4 B col w gx gy m bx by_ vk ks vt ts) (hB : B ≤ w.heap.size) (hr : Row 9 (fun k => Col B col w 4 k ∨ k = w.heap.size ∧ k < w'.heap.size) w' vt' (sv ts')) (hf : Fr (fun k => vt.ownBlock = some k) w w') : Inv4 B (upd col w 4) w' gx gy m bx by_ vk ks vt' ts' :=
  have hT : ∀ k, vt.ownBlock = some k → Col B col w 4 k ∨ w.heap.size ≤ k := fun k hk => .inl (h.t.2 k hk)
  ⟨h.x.old hf hT (by decide), h.y.old hf hT (by decide), Row.old h.k hf hT (by decide), hr.mono fun k hk => col_ext hB hf.size (hk.imp id fun h2 => ⟨by omega, h2.2⟩)⟩
theorem Inv4.tmp (h : Inv4 B col w gx gy m bx by_ vk ks vt ts) (hf : Fr (fun _ => False) w w') : Inv4 B (upd col w 0) w' gx gy m bx by_ vk ks vt ts :=
  ⟨h.x.old hf (fun _ h => h.elim) (c := 0) (by decide), h.y.old hf (fun _ h => h.elim) (c := 0) (by decide), Row.old h.k hf (fun _ h => h.elim) (c := 0) (by decide), Row.old h.t hf (fun _ h => h.elim) (c := 0) (by decide)⟩
end

/-- What Next leaves, its text told as new. -/
def NextNew (B : Nat) (S : Nat → Prop) (w : World) (g : Nat) (most : Int) (k : Int) (out : List UInt8) (bs : List UInt8) (e : Ending) (w' : World) : Prop :=
  ∃ A c S', e = .returned (.tuple #[.int .i64 k, .slice A out.length c]) ∧ Src w' A (bv out) ∧ (∀ p, A = some p → out ≠ [] → w.heap.size ≤ p.block ∧ p.block < w'.heap.size) ∧ St B S' w' g most bs false 0 ∧ Step S S' w w'
theorem NextPost.new {B : Nat} {S : Nat → Prop} {w w' : World} {g : Nat} {most : Int} {bs bs0 out : List UInt8} {k : Int} {e : Ending} (h : NextPost S w g most k out bs false 0 e w') (hF : St B S w g most bs0 false 0) (hB : B ≤ w.heap.size) : NextNew B S w g most k out bs e w' := by
  obtain ⟨A, c, he, hc, hsrc, ⟨S', h1, h2, h3⟩, hf⟩ := h
  refine ⟨A, c, S', he, hsrc, fun p hp ho => ⟨(h2 p hp).2, ?_⟩, St.mk' h3 hF.lies hF.base hB ⟨hf, h1⟩, ⟨hf, h1⟩⟩
  cases out with
  | nil => exact absurd rfl ho
  | cons b l =>
    have := World.block_lt_of_cell? w' _ (hsrc.2 p hp 0 _ (by simp [bv]; rfl))
    rwa [show (p.add 0).block = p.block from by unfold Addr.add; split <;> rfl] at this

theorem next_none_new {B : Nat} {S : Nat → Prop} {w : World} {g : Nat} {most : Int} {bs : List UInt8} (m : Int) (hF : St B S w g most bs false 0) (hB : B ≤ w.heap.size) (hs0 : Pure.split bs = none) (hl2 : bs.length ≤ 2147483648) (hm : w.cell? ⟨0, 0, none⟩ = some (.int .i64 m)) :
    Calls Try.prog 10 #[.pointer (some ⟨g, 0, none⟩)] w (NextNew B S w g most 0 [] bs) :=
  (next_none S w g most bs m hF.feed hs0 hl2 hm).mono fun _ _ h => h.new hF hB
theorem next_some_new {B : Nat} {S : Nat → Prop} {w : World} {g : Nat} {most : Int} {bs : List UInt8} (m : Int) {a r : List UInt8} (hF : St B S w g most bs false 0) (hB : B ≤ w.heap.size) (hs0 : Pure.split bs = some (a, r)) (hl2 : bs.length ≤ 2147483648) (hm : w.cell? ⟨0, 0, none⟩ = some (.int .i64 m)) :
    Calls Try.prog 10 #[.pointer (some ⟨g, 0, none⟩)] w (NextNew B S w g most (Pure.kindOf most a) (Pure.textOf most a) r) :=
  (next_some S w g most bs a r m hF.feed hF.lies hs0 hl2 hm).mono fun _ _ h => h.new hF hB


/-- What Next gives of bytes bs: its kind, its text, what is left. -/
def nextK (M : Int) (bs : List UInt8) : Int := match Pure.split bs with | none => 0 | some (a, _) => Pure.kindOf M a
def nextT (M : Int) (bs : List UInt8) : List UInt8 := match Pure.split bs with | none => [] | some (a, _) => Pure.textOf M a
def nextR (bs : List UInt8) : List UInt8 := match Pure.split bs with | none => bs | some (_, r) => r

theorem next_any_new {B : Nat} {S : Nat → Prop} {w : World} {g : Nat} {most : Int} {bs : List UInt8} (m : Int) (hF : St B S w g most bs false 0) (hB : B ≤ w.heap.size) (hl2 : bs.length ≤ 2147483648) (hm : w.cell? ⟨0, 0, none⟩ = some (.int .i64 m)) :
    Calls Try.prog 10 #[.pointer (some ⟨g, 0, none⟩)] w (NextNew B S w g most (nextK most bs) (nextT most bs) (nextR bs)) := by
  unfold nextK nextT nextR
  cases hs : Pure.split bs with
  | none => exact next_none_new m hF hB hs hl2 hm
  | some p => exact next_some_new m (a := p.1) (r := p.2) hF hB hs hl2 hm

/-- How far y is: nothing more, or a thing was taken. -/
def Taken (M : Int) (b : List UInt8) (o : List (Int × List UInt8)) (yb : List UInt8) (k : Int) (out : List UInt8) : Prop :=
  (k = 0 ∧ Pure.Part M b o yb ∧ Pure.split yb = none) ∨ (0 < k ∧ ∃ m0 a, Pure.Part M b o m0 ∧ Pure.split m0 = some (a, yb) ∧ k = Pure.kindOf M a ∧ out = Pure.textOf M a)

theorem kindOf_pos (M : Int) (a : List UInt8) : 0 < Pure.kindOf M a ∧ Pure.kindOf M a ≤ 2 := by unfold Pure.kindOf; split <;> omega

theorem taken_next {M : Int} {b : List UInt8} {o : List (Int × List UInt8)} {m : List UInt8} (h : Pure.Part M b o m) : Taken M b o (nextR m) (nextK M m) (nextT M m) := by
  unfold nextK nextT nextR
  cases hs : Pure.split m with
  | none => exact .inl ⟨rfl, h, hs⟩
  | some p => exact .inr ⟨(kindOf_pos M p.1).1, m, p.1, h, hs, rfl, rfl⟩

theorem nextR_len (m : List UInt8) (M : Int) : (nextR m).length + (if nextK M m = 0 then 0 else 1) ≤ m.length := by
  unfold nextK nextR
  cases hs : Pure.split m with
  | none => simp
  | some p =>
    have := congrArg List.length (Pure.split_eq hs)
    simp at this
    simp only []
    split <;> omega
theorem nextK_rng (M : Int) (m : List UInt8) : 0 ≤ nextK M m ∧ nextK M m ≤ 2 := by
  unfold nextK
  cases hs : Pure.split m with
  | none => simp
  | some p => have := kindOf_pos M p.1; simp only []; omega

theorem Taken.more {M : Int} {b : List UInt8} {o : List (Int × List UInt8)} {yb : List UInt8} {k : Int} {out : List UInt8} (h : Taken M b o yb k out) (hk : 0 < k) : Pure.Part M b (o ++ [(k, out)]) yb := by
  rcases h with ⟨h0, _⟩ | ⟨_, m0, a, h1, h2, rfl, rfl⟩
  · omega
  · exact .snoc h1 h2
theorem Taken.done {M : Int} {b : List UInt8} {o : List (Int × List UInt8)} {yb : List UInt8} {k : Int} {out : List UInt8} (h : Taken M b o yb k out) (hk : ¬ 0 < k) : Pure.Part M b o yb ∧ Pure.split yb = none := by
  rcases h with ⟨_, h1, h2⟩ | ⟨h1, _⟩
  · exact ⟨h1, h2⟩
  · omega
theorem Taken.len {M : Int} {b : List UInt8} {o : List (Int × List UInt8)} {yb : List UInt8} {k : Int} {out : List UInt8} (h : Taken M b o yb k out) : 2 * o.length + yb.length ≤ b.length := by
  rcases h with ⟨_, h1, h2⟩ | ⟨_, m0, a, h1, h2, _, _⟩
  · exact h1.len
  · have := h1.len
    have := congrArg List.length (Pure.split_eq h2)
    simp at this
    omega


theorem src_keep {B : Nat} {col : Nat → Nat} {w w' : World} {T : Nat → Prop} {A : Option Addr} {out : List UInt8} {c d : Nat} (h : Src w A (bv out)) (hc : ∀ p, A = some p → out ≠ [] → Col B col w d p.block) (hf : Fr T w w') (hT : ∀ k, T k → Col B col w c k ∨ w.heap.size ≤ k) (hcd : d ≠ c) :
    Src w' A (bv out) ∧ (∀ p, A = some p → out ≠ [] → Col B (upd col w c) w' d p.block) := by
  cases out with
  | nil => exact ⟨Src.empty, fun p _ h => absurd rfl h⟩
  | cons x l => exact ⟨Src.old h hf hT hcd (fun p hp => hc p hp (by simp)), fun p hp ho => col_old hf.size (hc p hp ho)⟩

def ksOf (o : List (Int × List UInt8)) : List Int := o.map fun p => p.1
def tsOf (o : List (Int × List UInt8)) : List ByteArray := o.map fun p => ⟨p.2.toArray⟩
theorem iv_ks (o : List (Int × List UInt8)) (k : Int) (out : List UInt8) : iv (ksOf o) ++ iv [k] = iv (ksOf (o ++ [(k, out)])) := by simp [iv, ksOf]
theorem sv_ts (o : List (Int × List UInt8)) (k : Int) (out : List UInt8) : sv (tsOf o) ++ sv [⟨out.toArray⟩] = sv (tsOf (o ++ [(k, out)])) := by simp [sv, tsOf]
theorem iv_ks_len (o : List (Int × List UInt8)) : (iv (ksOf o)).length = o.length := by simp [iv, ksOf]
theorem sv_ts_len (o : List (Int × List UInt8)) : (sv (tsOf o)).length = o.length := by simp [sv, tsOf]
theorem row_slice_len {e : TypeId} {S : Nat → Prop} {w : World} {v : Value} {xs : List Value} (h : Row e S w v xs) (n : Nat) (hn : xs.length = n) : ∃ A c, v = .slice A n c := by
  obtain ⟨A, c, he, _⟩ := h.slice
  exact ⟨A, c, hn ▸ he⟩


theorem next_step_y {B : Nat} {col : Nat → Nat} {w w' : World} {gx gy : Nat} {m : Int} {bx by_ by' : List UInt8} {vk : Value} {ks : List Int} {vt : Value} {ts : List ByteArray} {S' : Nat → Prop} {A : Option Addr} {out : List UInt8}
    (h : Inv4 B col w gx gy m bx by_ vk ks vt ts) (hB : B ≤ w.heap.size) (hn : ∀ p, A = some p → out ≠ [] → w.heap.size ≤ p.block ∧ p.block < w'.heap.size) (hF : St B S' w' gy m by' false 0) (hs : Step (Col B col w 2) S' w w') :
    Inv4 B (upd col w 2) w' gx gy m bx by' vk ks vt ts ∧ ∀ p, A = some p → out ≠ [] → Col B (upd col w 2) w' 2 p.block :=
  ⟨h.step_y hB hF hs, fun p hp ho => col_new hB (hn p hp ho).1 (hn p hp ho).2⟩


theorem next_step_x {B : Nat} {col : Nat → Nat} {w w' : World} {gx gy : Nat} {m : Int} {bx by_ bx' : List UInt8} {vk : Value} {ks : List Int} {vt : Value} {ts : List ByteArray} {S' : Nat → Prop}
    (h : Inv4 B col w gx gy m bx by_ vk ks vt ts) (hB : B ≤ w.heap.size) (hF : St B S' w' gx m bx' false 0) (hs : Step (Col B col w 1) S' w w') :
    ∃ col', Inv4 B col' w' gx gy m bx' by_ vk ks vt ts := ⟨_, h.step_x hB hF hs⟩

/-- What stands at place i of the two rows. -/
theorem rows_at {B : Nat} {col : Nat → Nat} {w : World} {gx gy : Nat} {m : Int} {bx by_ : List UInt8} {Ak At : Option Addr} {nk nt ck ct : Nat} {o : List (Int × List UInt8)}
    (h : Inv4 B col w gx gy m bx by_ (.slice Ak nk ck) (ksOf o) (.slice At nt ct) (tsOf o)) {i : Nat} {k : Int} {out : List UInt8} (hi : o[i]? = some (k, out)) :
    ∃ pk pt, Ak = some pk ∧ At = some pt ∧ w.cell? (pk.add i) = some (.int .i64 k) ∧ w.cell? (pt.add i) = some (.string ⟨out.toArray⟩) := by
  have hk := h.k.src
  have ht := h.t.src
  have e1 : (iv (ksOf o))[i]? = some (.int .i64 k) := by simp [iv, ksOf, hi]
  have e2 : (sv (tsOf o))[i]? = some (.string ⟨out.toArray⟩) := by simp [sv, tsOf, hi]
  cases Ak with
  | none => rw [hk.1 rfl] at e1; simp at e1
  | some pk =>
    cases At with
    | none => rw [ht.1 rfl] at e2; simp at e2
    | some pt => exact ⟨pk, pt, rfl, rfl, hk.2 pk rfl i _ e1, ht.2 pt rfl i _ e2⟩

end Go.Proofs.Ytboijleajaiiiaa
