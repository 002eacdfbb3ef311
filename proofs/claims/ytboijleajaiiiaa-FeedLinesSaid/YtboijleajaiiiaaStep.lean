/-
  The feed's calls, as steps of whoever holds feeds and texts: sets of blocks that grow.
-/
import Derived.Test.YtboijleajaiiiaaNext
namespace Go.Proofs.Ytboijleajaiiiaa
open Go.RowKit Own
set_option linter.unusedVariables false
set_option linter.unusedSimpArgs false

/-- A feed whose blocks S lie in w, from B on. -/
structure St (B : Nat) (S : Nat → Prop) (w : World) (g : Nat) (most : Int) (bs : List UInt8) (wb : Bool) (wn : Int) : Prop where
  lies : In S w
  base : ∀ k, S k → B ≤ k
  feed : Feed S w g most bs wb wn

/-- A step: only S's blocks are written, and S may grow by new ones. -/
structure Step (S S' : Nat → Prop) (w w' : World) : Prop where
  fr : Fr S w w'
  sub : ∀ k, S' k → ext S w w' k

/-- A text that is held beside the blocks S. -/
def Held (S : Nat → Prop) (w : World) (A : Option Addr) (out : List UInt8) : Prop := Src w A (bv out) ∧ (out ≠ [] → ∀ p, A = some p → ¬ S p.block)

section
variable {B : Nat} {S S' T : Nat → Prop} {w w' : World} {g : Nat} {most wn : Int} {bs : List UInt8} {wb : Bool} {A : Option Addr} {out : List UInt8}

theorem Step.below (h : Step S S' w w') (hS : ∀ k, S k → B ≤ k) (hB : B ≤ w.heap.size) : Below B w w' := h.fr.below hS hB
theorem Step.cell (h : Step S S' w w') {p : Addr} {v : Value} (hc : w.cell? p = some v) (hS : ∀ k, S k → B ≤ k) (hp : p.block < B) : w'.cell? p = some v := h.fr.cell hc (fun hs => by have := hS _ hs; omega)

theorem Held.step (h : Held S w A out) (hs : Step S S' w w') : Held S' w' A out := by
  cases out with
  | nil => exact ⟨Src.empty, fun h => absurd rfl h⟩
  | cons b l =>
    have hn := h.2 (by simp)
    have hlt : ∀ p, A = some p → p.block < w.heap.size := fun p hp => by
      have := World.block_lt_of_cell? w _ (h.1.2 p hp 0 _ (by simp [bv]; rfl))
      rwa [show (p.add 0).block = p.block from by unfold Addr.add; split <;> rfl] at this
    exact ⟨h.1.fr hs.fr hn, fun _ p hp hk => (hs.sub _ hk).elim (hn p hp) (fun h2 => by have := hlt p hp; omega)⟩

/-- A row that is held beside two sets. -/
theorem Src.step {xs : List Value} (h : Src w A xs) (hs : Step S S' w w') (hS : ∀ k, S k → B ≤ k) (hA : ∀ p, A = some p → p.block < B) : Src w' A xs := h.fr hs.fr (fun p hp hk => by have := hS _ hk; have := hA p hp; omega)

/-- Another's blocks stay. -/
theorem St.other (h : St B T w g most bs wb wn) (hs : Step S S' w w') (hd : ∀ k, T k → ¬ S k) : St B T w' g most bs wb wn ∧ ∀ k, T k → ¬ S' k :=
  ⟨⟨fun k hk => Nat.lt_of_lt_of_le (h.lies k hk) hs.fr.size, h.base, h.feed.fr hs.fr hd⟩, fun k hk hk' => (hs.sub k hk').elim (hd k hk) (fun h2 => by have := h.lies k hk; omega)⟩

theorem St.mk' (hF : Feed S' w' g most bs wb wn) (hI : In S w) (hb : ∀ k, S k → B ≤ k) (hB : B ≤ w.heap.size) (hs : Step S S' w w') : St B S' w' g most bs wb wn :=
  ⟨fun k hk => (hI.ext hs.fr.size) k (hs.sub k hk), fun k hk => (hs.sub k hk).elim (hb k) (fun h => by omega), hF⟩

theorem new_st (B : Nat) (m : Int) (w : World) (hB : B ≤ w.heap.size) :
    Calls Try.prog 7 #[.int .i64 m] w fun e w' => ∃ g S, e = .returned (.pointer (some ⟨g, 0, none⟩)) ∧ St B S w' g (if m < 2 then 2 else m) [] false 0 ∧ (∀ k, S k → w.heap.size ≤ k) ∧ Fr (fun _ => False) w w' := by
  refine (new_any m w).mono fun e w' ⟨g, he, hF, hf⟩ => ⟨g, _, he, ⟨fun k hk => hk.2, fun k hk => by have := hk.1; omega, hF⟩, fun k hk => hk.1, hf⟩

theorem add_st (n c : Nat) (ys : List UInt8) (hF : St B S w g most bs wb wn) (hB : B ≤ w.heap.size) (hs : Src w A (bv ys)) (hn : n = ys.length) (hlen : bs.length + ys.length ≤ 1099511627776) :
    Calls Try.prog 8 #[.pointer (some ⟨g, 0, none⟩), .slice A n c] w fun e w' => e = .returned (.tuple #[]) ∧ ∃ S', St B S' w' g most (bs ++ ys) wb wn ∧ Step S S' w w' := by
  refine (add_any A n c ys S w g most wn bs wb hF.feed hF.lies hs hn hlen).mono fun e w' ⟨he, hF', hf⟩ => ⟨he, _, St.mk' hF' hF.lies hF.base hB ⟨hf, fun k hk => hk⟩, ⟨hf, fun k hk => hk⟩⟩

theorem need_st (n : Int) (hF : St B S w g most bs wb wn) (hn : 0 ≤ n) :
    Calls Try.prog 12 #[.pointer (some ⟨g, 0, none⟩), .int .i64 n] w fun e w' => e = .returned (.tuple #[]) ∧ St B S w' g most bs true n ∧ Step S S w w' := by
  refine (need_any n S w g most wn bs wb hF.feed hn).mono fun e w' ⟨he, hF', hf⟩ => ⟨he, ⟨fun k hk => Nat.lt_of_lt_of_le (hF.lies k hk) hf.size, hF.base, hF'⟩, ⟨hf, fun k hk => .inl hk⟩⟩

/-- What Next leaves, for whoever holds it. -/
def NextSt (B : Nat) (S : Nat → Prop) (w : World) (g : Nat) (most : Int) (k : Int) (out : List UInt8) (bs : List UInt8) (wb : Bool) (wn : Int) (e : Ending) (w' : World) : Prop :=
  ∃ A c S', e = .returned (.tuple #[.int .i64 k, .slice A out.length c]) ∧ Held S' w' A out ∧ St B S' w' g most bs wb wn ∧ Step S S' w w'

theorem NextPost.st {bs0 : List UInt8} {wb0 : Bool} {wn0 : Int} {k : Int} {e : Ending} (h : NextPost S w g most k out bs wb wn e w') (hF : St B S w g most bs0 wb0 wn0) (hB : B ≤ w.heap.size) : NextSt B S w g most k out bs wb wn e w' := by
  obtain ⟨A, c, he, hc, hsrc, ⟨S', h1, h2, h3⟩, hf⟩ := h
  exact ⟨A, c, S', he, ⟨hsrc, fun _ p hp => (h2 p hp).1⟩, St.mk' h3 hF.lies hF.base hB ⟨hf, h1⟩, ⟨hf, h1⟩⟩

theorem next_none_st (m : Int) (hF : St B S w g most bs false 0) (hB : B ≤ w.heap.size) (hs0 : Pure.split bs = none) (hl2 : bs.length ≤ 2147483648) (hm : w.cell? ⟨0, 0, none⟩ = some (.int .i64 m)) :
    Calls Try.prog 10 #[.pointer (some ⟨g, 0, none⟩)] w (NextSt B S w g most 0 [] bs false 0) :=
  (next_none S w g most bs m hF.feed hs0 hl2 hm).mono fun _ _ h => h.st hF hB

theorem next_some_st (m : Int) {a r : List UInt8} (hF : St B S w g most bs false 0) (hB : B ≤ w.heap.size) (hs0 : Pure.split bs = some (a, r)) (hl2 : bs.length ≤ 2147483648) (hm : w.cell? ⟨0, 0, none⟩ = some (.int .i64 m)) :
    Calls Try.prog 10 #[.pointer (some ⟨g, 0, none⟩)] w (NextSt B S w g most (Pure.kindOf most a) (Pure.textOf most a) r false 0) :=
  (next_some S w g most bs a r m hF.feed hF.lies hs0 hl2 hm).mono fun _ _ h => h.st hF hB

theorem next_wait_st (n : Nat) (hF : St B S w g most bs true n) (hB : B ≤ w.heap.size) (hlen : bs.length < n) (hl2 : bs.length ≤ 2147483648) :
    Calls Try.prog 10 #[.pointer (some ⟨g, 0, none⟩)] w (NextSt B S w g most 0 [] bs true n) :=
  (next_wait S w g most n bs hF.feed hlen hl2).mono fun _ _ h => h.st hF hB

theorem next_bytes_st (n : Nat) (hF : St B S w g most bs true n) (hB : B ≤ w.heap.size) (hlen : n ≤ bs.length) (hl2 : bs.length ≤ 2147483648) :
    Calls Try.prog 10 #[.pointer (some ⟨g, 0, none⟩)] w (NextSt B S w g most 3 (bs.take n) (bs.drop n) false 0) :=
  (next_bytes S w g most n bs hF.feed hF.lies hlen hl2).mono fun _ _ h => h.st hF hB

theorem waiting_st (hF : St B S w g most bs wb wn) :
    Calls Try.prog 11 #[.pointer (some ⟨g, 0, none⟩)] w fun e w' => e = .returned (.int .i64 bs.length) ∧ w = w' := waiting_any S w g most wn bs wb hF.feed
end

theorem kind_any (c n : Int) (w : World) (h1 : -9223372036854775808 ≤ c) (h2 : c ≤ 9223372036854775807) (hn : 0 < n) (hn2 : n ≤ 1000) :
    Calls Try.prog 9 #[.int .i64 c, .int .i64 n] w fun e w' => (∃ k : Nat, (k : Int) < n ∧ e = .returned (.int .i64 k)) ∧ w = w' := by
  by_cases hc : c < 0
  · go_enter Try.func9, Try.ntmps9
    go_wp2
    go_ret
    have e1 : -(c + 1).tmod n = (-(c + 1)) % n := by rw [← Int.neg_tmod, Int.tmod_eq_emod_of_nonneg (by omega)]
    have e2 := Int.emod_nonneg (-(c + 1)) (show n ≠ 0 by omega)
    have e3 := Int.emod_lt_of_pos (-(c + 1)) hn
    refine ⟨⟨((-(c + 1)) % n).toNat, by omega, ?_⟩, rfl⟩
    show Ending.returned (.int .i64 (-(c + 1).tmod n)) = _
    rw [e1, Int.toNat_of_nonneg e2]
  · go_enter Try.func9, Try.ntmps9
    go_wp2
    go_ret
    have e2 := Int.emod_nonneg c (show n ≠ 0 by omega)
    have e3 := Int.emod_lt_of_pos c hn
    refine ⟨⟨(c % n).toNat, by omega, ?_⟩, rfl⟩
    show Ending.returned (.int .i64 (c % n)) = _
    rw [Int.toNat_of_nonneg e2]


theorem step_alloc (S : Nat → Prop) (w : World) (o : Obj) : Step S S w (w.alloc o) := ⟨Fr.alloc S w o, fun k hk => .inl hk⟩
theorem step_drewN (S : Nat → Prop) (w : World) (n : Nat) : Step S S w (w.drewN n) := ⟨Fr.drewN S w n, fun k hk => .inl hk⟩
theorem Step.trans {S S' S2 : Nat → Prop} {a b c : World} (h : Step S S' a b) (k : Step S' S2 b c) : Step S S2 a c :=
  ⟨h.fr.trans k.fr fun i hi => (h.sub i hi).imp id (fun x => x.1), fun i hi => (k.sub i hi).elim
    (fun x => (h.sub i x).imp id (fun y => ⟨y.1, Nat.lt_of_lt_of_le y.2 k.fr.size⟩)) (fun x => .inr ⟨Nat.le_trans h.fr.size x.1, x.2⟩)⟩
theorem St.alloc {B : Nat} {S : Nat → Prop} {w : World} {g : Nat} {most wn : Int} {bs : List UInt8} {wb : Bool} (h : St B S w g most bs wb wn) (o : Obj) : St B S (w.alloc o) g most bs wb wn :=
  ⟨fun k hk => by have := h.lies k hk; simp; omega, h.base, h.feed.fr (Fr.alloc (fun _ => False) w o) (fun _ _ h => h)⟩
theorem St.fr0 {B : Nat} {S : Nat → Prop} {w w' : World} {g : Nat} {most wn : Int} {bs : List UInt8} {wb : Bool} (h : St B S w g most bs wb wn) (hf : Fr (fun _ => False) w w') : St B S w' g most bs wb wn :=
  ⟨fun k hk => Nat.lt_of_lt_of_le (h.lies k hk) hf.size, h.base, h.feed.fr hf (fun _ _ h => h)⟩
theorem cell_alloc {w : World} {p : Addr} {v : Value} (h : w.cell? p = some v) (o : Obj) : (w.alloc o).cell? p = some v := (Fr.alloc (fun _ => False) w o).cell h (fun h => h)

/-- string(b). -/
theorem conv_src {w : World} {A : Option Addr} {out : List UInt8} (h : Src w A (bv out)) (n c : Nat) (hn : n = out.length) : (convert 22 9 (.slice A n c)).run Try.prog w = .ok (.string ⟨out.toArray⟩) w := by
  subst hn
  cases A with
  | none =>
    have ho : out = [] := by simpa [bv] using h.1 rfl
    subst ho
    exact run_convert_bytes_nil w 22 5 Try.underlying22 Try.underlying5 0 c 9 Try.underlying9
  | some ad =>
    have hl : (loadCells ad out.length).run Try.prog w = .ok ((nums out).map (Value.int .u8)).toArray w := by
      have := run_loadCells_list (P := Try.prog) w ad (bv out) (fun j v hj => h.2 ad rfl j v hj)
      rw [bv_len] at this
      rw [this]
      simp [bv, nums, Function.comp_def]
    rw [run_convert_bytes_string w 22 9 5 _ _ c Try.underlying22 Try.underlying5 Try.underlying9, run_bytesToString w ad _ c (nums out) hl, foldl_push_bytes]
    simp [nums, ByteArray.empty, ByteArray.emptyWithCapacity, Function.comp_def]
    rfl

end Go.Proofs.Ytboijleajaiiiaa
