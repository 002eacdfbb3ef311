/-
  Next of a feed: what it gives, and what is left.
-/
import Derived.Test.YtboijleajaiiiaaFeed
import Derived.Test.YtboijleajaiiiaaShelf
import Derived.Test.YtboijleajaiiiaaPure
import Derived.Deep.QuietTactic
import Derived.BigQuiet
import Derived.Lib.SlBytesConst
namespace Go.Proofs.Ytboijleajaiiiaa
open Go.RowKit Own
set_option linter.unusedVariables false
set_option linter.unusedSimpArgs false

theorem need_ne (n : Int) (w : World) : (binOp .neq 39 (.agg #[.bool true, .int .i64 n]) (.agg #[.bool false, .int .i64 0])).run Try.prog w = .ok (.bool true) w := by kernel_rfl
theorem need_eq (w : World) : (binOp .neq 39 (.agg #[.bool false, .int .i64 0]) (.agg #[.bool false, .int .i64 0])).run Try.prog w = .ok (.bool false) w := by kernel_rfl

/-- The bytes as numbers. -/
def nums (l : List UInt8) : List Int := l.map fun b => (b.toNat : Int)
theorem bytesOf_nums (l : List UInt8) : Lib.bytesOf (nums l) = l := by
  simp [Lib.bytesOf, nums, Function.comp_def]
theorem nums_len (l : List UInt8) : (nums l).length = l.length := by simp [nums]
theorem nums_byte (l : List UInt8) : ∀ x ∈ nums l, 0 ≤ x ∧ x < 256 := by
  intro x hx
  simp [nums] at hx
  obtain ⟨b, _, rfl⟩ := hx
  have := b.toNat_lt
  omega
theorem bv_get (l : List UInt8) (i : Nat) (h : i < l.length) : (bv l)[i]? = some (.int .u8 ((nums l).getD i 0)) := by
  simp [bv, nums, h]

theorem index_any (A : Option Addr) (n c : Nat) (bs ss : List UInt8) (p2 : Addr) (k c2 : Nat) (m : Int) (w : World) (hs : Src w A (bv bs)) (hA : A = none → n = 0 ∧ c = 0) (hn : n = bs.length) (hcap : n ≤ c) (hlen : bs.length ≤ 2147483648)
    (hs2 : Src w (some p2) (bv ss)) (hk : k = ss.length) (hk2 : 2 ≤ k) (hk3 : k ≤ 64) (hm : w.cell? ⟨0, 0, none⟩ = some (.int .i64 m)) :
    Calls Try.prog 14 #[.slice A n c, .slice (some p2) k c2] w fun e w' => e = .returned (.int .i64 (Lib.index bs ss)) ∧ ∃ q, w' = w.drewN q := by
  subst hn hk
  cases A with
  | none =>
    obtain ⟨h1, h2⟩ := hA rfl
    have hb : bs = [] := List.eq_nil_of_length_eq_zero h1
    subst hb h2
    refine (Try.bytes_Index_nil (some p2) ss.length c2 w (by omega) (by omega)).mono fun e w' ⟨he, hw⟩ => ?_
    rw [if_neg (by omega)] at he
    have hi : Lib.index [] ss = -1 := by
      unfold Lib.index
      rw [if_neg]
      intro h
      rw [List.isEmpty_iff] at h
      subst h
      simp at hk2
    exact ⟨by rw [hi]; exact he, 0, hw⟩
  | some a1 =>
    have := Try.bytes_Index_at a1 p2 bs.length c ss.length c2 (nums bs) (nums ss) m w (nums_len bs) (nums_len ss) (nums_byte bs) (nums_byte ss) (fun i hi => hs.2 a1 rfl i _ (bv_get bs i hi)) (fun i hi => hs2.2 p2 rfl i _ (bv_get ss i hi)) hcap (by omega) (by omega) hm
    rw [bytesOf_nums, bytesOf_nums] at this
    exact this


/-- What Next leaves. -/
def NextPost (S : Nat → Prop) (w : World) (g : Nat) (most : Int) (k : Int) (out : List UInt8) (bs : List UInt8) (wb : Bool) (wn : Int) (e : Ending) (w' : World) : Prop :=
  ∃ A c, e = .returned (.tuple #[.int .i64 k, .slice A out.length c]) ∧ out.length ≤ c ∧ Src w' A (bv out) ∧ Apart S w w' A (fun S' => Feed S' w' g most bs wb wn) ∧ Fr S w w'

theorem NextPost.zero {S : Nat → Prop} {w w' : World} {g : Nat} {most wn : Int} {bs : List UInt8} {wb : Bool} (hF : Feed S w g most bs wb wn) (hf : Fr (fun _ => False) w w') :
    NextPost S w g most 0 [] bs wb wn (.returned (.tuple #[.int .i64 0, .slice none 0 0])) w' :=
  ⟨none, 0, rfl, Nat.le_refl _, Src.empty, ⟨S, fun k hk => .inl hk, fun p hp => by simp at hp, hF.fr hf (fun _ _ h => h)⟩, hf.mono fun k h => h.elim⟩

theorem next_wait (S : Nat → Prop) (w : World) (g : Nat) (most : Int) (n : Nat) (bs : List UInt8) (hF : Feed S w g most bs true n) (hlen : bs.length < n) (hl2 : bs.length ≤ 2147483648) :
    Calls Try.prog 10 #[.pointer (some ⟨g, 0, none⟩)] w (NextPost S w g most 0 [] bs true n) := by
  have HF := hid hF
  obtain ⟨v, hb, hr, hne, hg⟩ := hF
  obtain ⟨A, c, rfl, hc, hm, h0, hs⟩ := hr.slice
  simp only [bv_len] at hb
  have h1 := cells_at hb 1
  have h2 := cells_at hb 2
  have h3 := cells_at hb 3
  have hne1 := need_ne n
  have hlt : decide ((bs.length : Int) < n) = true := by simpa using hlen
  clear hs h0 hm hc hr hne hb
  go_enter Try.func10, Try.ntmps10
  go_wp2
  go_quiet (fail)
  go_wp2
  go_ret2
  exact NextPost.zero HF.out (Fr.drewN _ _ _)

theorem feed_need {S : Nat → Prop} {w : World} {g : Nat} {most wn : Int} {bs : List UInt8} {wb : Bool} (hF : Feed S w g most bs wb wn) (b : Bool) (n : Int) :
    Feed S ((w.setCell ⟨g, 2, none⟩ (.bool b)).setCell ⟨g, 3, none⟩ (.int .i64 n)) g most bs b n ∧ Fr S w ((w.setCell ⟨g, 2, none⟩ (.bool b)).setCell ⟨g, 3, none⟩ (.int .i64 n)) := by
  obtain ⟨v, hb, hr, hne, hg⟩ := hF
  refine ⟨⟨v, ?_, ?_, hne, hg⟩, (Fr.setCell w hg _).trans (Fr.setCell _ hg _) fun _ h => .inl h⟩
  · simpa using block_set (block_set hb 2 (.bool b)) 3 (.int .i64 n)
  · have hf1 : Fr (fun k => k = g) w ((w.setCell ⟨g, 2, none⟩ (.bool b)).setCell ⟨g, 3, none⟩ (.int .i64 n)) := (Fr.setCell (S := fun k => k = g) w (p := ⟨g, 2, none⟩) rfl _).trans (Fr.setCell (S := fun k => k = g) _ (p := ⟨g, 3, none⟩) rfl _) fun _ h => .inl h
    exact (hr.only.fr hf1 fun k hk he => hne (hk.trans (by rw [he]))).mono fun k hk => hr.2 k hk

theorem next_bytes (S : Nat → Prop) (w : World) (g : Nat) (most : Int) (n : Nat) (bs : List UInt8) (hF : Feed S w g most bs true n) (hI : In S w) (hlen : n ≤ bs.length) (hl2 : bs.length ≤ 2147483648) :
    Calls Try.prog 10 #[.pointer (some ⟨g, 0, none⟩)] w (NextPost S w g most 3 (bs.take n) (bs.drop n) false 0) := by
  have HF := hid hF
  obtain ⟨v, hb, hr, hne, hg⟩ := hF
  obtain ⟨A, c, rfl, hc, hm, h0, hs⟩ := hr.slice
  simp only [bv_len] at hb
  have h1 := cells_at hb 1
  have h2 := cells_at hb 2
  have h3 := cells_at hb 3
  have f2 := free_at hb 2
  have f3 := free_at hb 3
  have hne1 := need_ne n
  have hlt : decide ((bs.length : Int) < n) = false := by simpa using hlen
  clear hs h0 hm hc hr hne hb
  go_enter Try.func10, Try.ntmps10
  go_wp2
  go_quiet (fail)
  have hst := feed_need ((HF.out.fr (Fr.drewN (fun _ => False) w nq) (fun _ _ h => h))) false 0
  have hI2 : In S (((w.drewN nq).setCell ⟨g, 2, none⟩ (.bool false)).setCell ⟨g, 3, none⟩ (.int .i64 0)) := fun k hk => by have := hI k hk; simpa [World.setCell, World.drewN] using this
  have hsz : (((w.drewN nq).setCell ⟨g, 2, none⟩ (.bool false)).setCell ⟨g, 3, none⟩ (.int .i64 0)).heap.size = w.heap.size := by simp [World.setCell, World.drewN]
  have HST := hid hst
  have HSZ := hid hsz
  clear hst hsz
  go_wp2_with (go_at_call 13; refine (take_any n 0 S _ g most 0 bs false HST.out.1 hI2 (by omega) (by omega)).mono ?_; rintro e w3 ⟨A3, c3, rfl, hc3, hs3, hF3, hf3⟩; have HF3 := hid hF3; clear hF3)
  go_ret2
  have hl : (bs.take n).length = n := by rw [List.length_take]; omega
  have hf0 : Fr (fun _ => False) w (w.drewN nq) := Fr.drewN _ _ _
  refine ⟨A3, c3, by rw [hl]; rfl, by rw [hl]; exact hc3, hs3, ?_, ?_⟩
  · have := HF3.out
    simp only [Nat.add_zero] at this
    obtain ⟨S', h1, h2, h3⟩ := this
    refine ⟨S', fun k hk => ?_, fun p hp => ?_, h3⟩
    · have hk := h1 k hk
      unfold ext at hk ⊢
      rwa [HSZ.out] at hk
    · have := h2 p hp
      rwa [HSZ.out] at this
  · exact (hf0.mono (T := S) (fun _ h => h.elim)).trans (HST.out.2.trans hf3 (fun _ h => .inl h)) (fun _ h => .inl h)


/-- A literal's row, as it lies. -/
theorem src_lit (w : World) (cs : Array Value) (e : TypeId) (fr : Nat × Nat) : Src (w.alloc (.cells cs e fr)) (some ⟨w.heap.size, 0, none⟩) cs.toList := by
  refine ⟨fun h => by simp at h, fun p hp j u hu => ?_⟩
  simp at hp
  subst hp
  have hh := heap_alloc_new w (.cells cs e fr)
  rw [Addr.add_lit, cells_at hh, Nat.zero_add]
  simpa using hu

theorem next_none (S : Nat → Prop) (w : World) (g : Nat) (most : Int) (bs : List UInt8) (m : Int) (hF : Feed S w g most bs false 0) (hs0 : Pure.split bs = none) (hl2 : bs.length ≤ 2147483648) (hm : w.cell? ⟨0, 0, none⟩ = some (.int .i64 m)) :
    Calls Try.prog 10 #[.pointer (some ⟨g, 0, none⟩)] w (NextPost S w g most 0 [] bs false 0) := by
  have HF := hid hF
  obtain ⟨v, hb, hr, hne, hg⟩ := hF
  obtain ⟨A, c, rfl, hc, hm2, h0, hs⟩ := hr.slice
  have hsrc := hr.src
  simp only [bv_len] at hb hc
  have h1 := cells_at hb 1
  have h2 := cells_at hb 2
  have h3 := cells_at hb 3
  have hne1 := need_eq
  have kc := fun (w : World) (C : Array Value) (n c : Nat) => Lib.run_convert_bytes_const (P := Try.prog) w 22 5 C n c Try.underlying22 Try.underlying5
  have hidx : Lib.index bs [13, 10] = -1 := by
    rcases Pure.split_index bs with ⟨_, h⟩ | ⟨n, _, _, h⟩
    · exact h
    · rw [hs0] at h; simp at h
  have hA : A = none → bs.length = 0 ∧ c = 0 := fun h => ⟨by have := congrArg List.length (h0 h).1; simpa [bv] using this, (h0 h).2⟩
  have hf1 := Fr.alloc (fun _ => False) w (.cells #[.int .u8 13, .int .u8 10] 5 (2, 3))
  have hcall := index_any A bs.length c bs [13, 10] ⟨w.heap.size, 0, none⟩ 2 2 m _ (hsrc.fr hf1 (fun _ _ h => h)) hA rfl hc hl2 (src_lit w #[.int .u8 13, .int .u8 10] 5 (2, 3)) rfl (by omega) (by omega) (hf1.cell hm (fun h => h))
  rw [hidx] at hcall
  have HC := hid hcall
  clear hcall hf1 hA hidx hs h0 hm2 hc hr hne hb hsrc hs0 hm
  go_enter Try.func10, Try.ntmps10
  go_wp2_with (go_at_call 14; refine HC.out.mono ?_; rintro e w1 ⟨rfl, q, rfl⟩)
  go_ret2
  exact NextPost.zero HF.out ((Fr.alloc (fun _ => False) w _).trans (Fr.drewN (fun _ => False) _ _) (fun _ h => .inl h))

set_option maxHeartbeats 1000000 in
theorem next_some (S : Nat → Prop) (w : World) (g : Nat) (most : Int) (bs a r : List UInt8) (m : Int) (hF : Feed S w g most bs false 0) (hI : In S w) (hs0 : Pure.split bs = some (a, r)) (hl2 : bs.length ≤ 2147483648) (hm : w.cell? ⟨0, 0, none⟩ = some (.int .i64 m)) :
    Calls Try.prog 10 #[.pointer (some ⟨g, 0, none⟩)] w (NextPost S w g most (Pure.kindOf most a) (Pure.textOf most a) r false 0) := by
  have HF := hid hF
  obtain ⟨v, hb, hr, hne, hg⟩ := hF
  obtain ⟨A, c, rfl, hc, hm2, h0, hs⟩ := hr.slice
  have hsrc := hr.src
  simp only [bv_len] at hb hc
  have h1 := cells_at hb 1
  have h2 := cells_at hb 2
  have h3 := cells_at hb 3
  have hne1 := need_eq
  have kc := fun (w : World) (C : Array Value) (n c : Nat) => Lib.run_convert_bytes_const (P := Try.prog) w 22 5 C n c Try.underlying22 Try.underlying5
  obtain ⟨n, hn, hidx, he⟩ : ∃ n : Nat, n + 2 ≤ bs.length ∧ Lib.index bs [13, 10] = n ∧ a = bs.take n ∧ r = bs.drop (n + 2) := by
    rcases Pure.split_index bs with ⟨h, _⟩ | ⟨n, h1, h2, h⟩
    · rw [hs0] at h; simp at h
    · rw [hs0] at h
      simp at h
      exact ⟨n, h1, h2, h⟩
  obtain ⟨rfl, rfl⟩ := he
  have hal : (bs.take n).length = n := by rw [List.length_take]; omega
  have hA : A = none → bs.length = 0 ∧ c = 0 := fun h => ⟨by have := congrArg List.length (h0 h).1; simpa [bv] using this, (h0 h).2⟩
  have hf1 := Fr.alloc (fun _ => False) w (.cells #[.int .u8 13, .int .u8 10] 5 (2, 3))
  have hcall := index_any A bs.length c bs [13, 10] ⟨w.heap.size, 0, none⟩ 2 2 m _ (hsrc.fr hf1 (fun _ _ h => h)) hA rfl hc hl2 (src_lit w #[.int .u8 13, .int .u8 10] 5 (2, 3)) rfl (by omega) (by omega) (hf1.cell hm (fun h => h))
  rw [hidx] at hcall
  have HC := hid hcall
  have HAL := hid hal
  have HS0 := hid hs0
  clear hcall hf1 hA hidx hs h0 hm2 hc hr hne hb hsrc hs0 hm hal
  have hlt : decide ((n : Int) < 0) = false := by simp
  have hf1 : Fr (fun _ => False) w (w.alloc (.cells #[.int .u8 13, .int .u8 10] 5 (2, 3))) := Fr.alloc _ w _
  have HF1 := hid hf1
  clear hf1
  have fin : ∀ (q : Nat) (w3 : World) (A3 : Option Addr), Apart S ((w.alloc (.cells #[.int .u8 13, .int .u8 10] 5 (2, 3))).drewN q) w3 A3 (fun S' => Feed S' w3 g most (bs.drop (n + 2)) false 0) → Fr S ((w.alloc (.cells #[.int .u8 13, .int .u8 10] 5 (2, 3))).drewN q) w3 →
      Apart S w w3 A3 (fun S' => Feed S' w3 g most (bs.drop (n + 2)) false 0) ∧ Fr S w w3 := by
    intro q w3 A3 hF3 hf3
    have hf0 : Fr S w ((w.alloc (.cells #[.int .u8 13, .int .u8 10] 5 (2, 3))).drewN q) := (HF1.out.trans (Fr.drewN (fun _ => False) _ q) (fun _ h => .inl h)).mono fun _ h => h.elim
    have hz := hf3.size
    obtain ⟨S', h1, h2, h3⟩ := hF3
    refine ⟨⟨S', fun k hk => ?_, fun p hp => ?_, h3⟩, hf0.trans hf3 fun _ h => .inl h⟩
    · rcases h1 k hk with hk | hk
      · exact .inl hk
      · simp [World.drewN] at hk
        exact .inr ⟨by omega, hk.2⟩
    · have := h2 p hp
      simp [World.drewN] at this
      exact ⟨this.1, by omega⟩
  have FIN := hid fin
  clear fin
  by_cases hmo : most < (n : Int) + 2
  · have hmo' : decide (most < (n : Int) + 2) = true := by simpa using hmo
    have hk : Pure.kindOf most (bs.take n) = 2 ∧ Pure.textOf most (bs.take n) = [] := by
      unfold Pure.kindOf Pure.textOf
      rw [HAL.out, if_pos hmo, if_pos hmo]
      exact ⟨rfl, rfl⟩
    rw [hk.1, hk.2]
    clear hk
    go_enter Try.func10, Try.ntmps10
    go_wp2_with (first | (go_at_call 14; refine HC.out.mono ?_; rintro e w1 ⟨rfl, q, rfl⟩) | (go_at_call 13; refine (take_any n 2 S _ g most 0 bs false (HF.out.fr (HF1.out.trans (Fr.drewN (fun _ => False) _ q) (fun _ h => .inl h)) (fun _ _ h => h)) (fun k hk => by have := hI k hk; simp [World.drewN]; omega) hn (by omega)).mono ?_; rintro e w3 ⟨A3, c3, rfl, hc3, hs3, hF3, hf3⟩; have HF3 := hid hF3; obtain ⟨S3, hx1, hx2, v3, hb3, hx3⟩ := hF3; have hd3 := cells_at hb3 0; clear hb3 hx3 hx1 hx2))
    go_ret2
    have := FIN.out q w3 A3 HF3.out hf3
    obtain ⟨⟨S', h1, h2, h3⟩, h4⟩ := this
    exact ⟨none, 0, rfl, Nat.le_refl _, Src.empty, ⟨S', h1, fun p hp => by simp at hp, h3⟩, h4⟩
  · have hmo' : decide (most < (n : Int) + 2) = false := by simpa using hmo
    have hk : Pure.kindOf most (bs.take n) = 1 ∧ Pure.textOf most (bs.take n) = bs.take n := by
      unfold Pure.kindOf Pure.textOf
      rw [HAL.out, if_neg hmo, if_neg hmo]
      exact ⟨rfl, rfl⟩
    rw [hk.1, hk.2]
    clear hk
    go_enter Try.func10, Try.ntmps10
    go_wp2_with (first | (go_at_call 14; refine HC.out.mono ?_; rintro e w1 ⟨rfl, q, rfl⟩) | (go_at_call 13; refine (take_any n 2 S _ g most 0 bs false (HF.out.fr (HF1.out.trans (Fr.drewN (fun _ => False) _ q) (fun _ h => .inl h)) (fun _ _ h => h)) (fun k hk => by have := hI k hk; simp [World.drewN]; omega) hn (by omega)).mono ?_; rintro e w3 ⟨A3, c3, rfl, hc3, hs3, hF3, hf3⟩; have HF3 := hid hF3; obtain ⟨S3, hx1, hx2, v3, hb3, hx3⟩ := hF3; have hd3 := cells_at hb3 0; clear hb3 hx3 hx1 hx2))
    go_ret2
    have := FIN.out q w3 A3 HF3.out hf3
    refine ⟨A3, c3, by rw [HAL.out]; rfl, by rw [HAL.out]; exact hc3, hs3, this⟩

end Go.Proofs.Ytboijleajaiiiaa
