/-
  What the feed's calls do, each once: New, Add, Need, Waiting, take.
-/
import Derived.Test.YtboijleajaiiiaaClone
namespace Go.Proofs.Ytboijleajaiiiaa
open Go.RowKit Own
set_option linter.unusedVariables false
set_option linter.unusedSimpArgs false

/-- The bytes as cells. -/
def bv (l : List UInt8) : List Value := l.map fun b => .int .u8 b.toNat
theorem bv_len (l : List UInt8) : (bv l).length = l.length := by simp [bv]
theorem bv_append (l m : List UInt8) : bv (l ++ m) = bv l ++ bv m := by simp [bv]
theorem bv_take (l : List UInt8) (n : Nat) : bv (l.take n) = (bv l).take n := by simp [bv]
theorem bv_drop (l : List UInt8) (n : Nat) : bv (l.drop n) = (bv l).drop n := by simp [bv]
theorem bv_one (l : List UInt8) : ∀ u ∈ bv l, u.oneCell' = true := by
  intro u hu
  simp [bv] at hu
  obtain ⟨b, _, rfl⟩ := hu
  rfl

/-- A feed at block g: its blocks are S's. -/
def Feed (S : Nat → Prop) (w : World) (g : Nat) (most : Int) (bs : List UInt8) (wb : Bool) (wn : Int) : Prop :=
  ∃ v, w.heap[g]? = some (.cells #[.int .i64 most, v, .bool wb, .int .i64 wn] 41 (0, 0)) ∧ Row 5 S w v (bv bs) ∧ v.ownBlock ≠ some g ∧ S g

section
variable {S T : Nat → Prop} {w w' : World} {g : Nat} {most wn : Int} {bs : List UInt8} {wb : Bool}

theorem Feed.fr (h : Feed S w g most bs wb wn) (hf : Fr T w w') (hd : ∀ k, S k → ¬ T k) : Feed S w' g most bs wb wn := by
  obtain ⟨v, hb, hr, hne, hg⟩ := h
  exact ⟨v, hf.heap hb (hd g hg), hr.fr hf hd, hne, hg⟩
theorem Feed.mono (h : Feed S w g most bs wb wn) (hS : ∀ k, S k → T k) : Feed T w g most bs wb wn := by
  obtain ⟨v, hb, hr, hne, hg⟩ := h
  exact ⟨v, hb, hr.mono hS, hne, hS g hg⟩
end

/-- P of blocks that were S's or are new, and none of which is A's; A's block is new. -/
def Apart (S : Nat → Prop) (w w' : World) (A : Option Addr) (P : (Nat → Prop) → Prop) : Prop :=
  ∃ S' : Nat → Prop, (∀ k, S' k → ext S w w' k) ∧ (∀ p, A = some p → ¬ S' p.block ∧ w.heap.size ≤ p.block) ∧ P S'

theorem cells_at {w : World} {g : Nat} {cs : Array Value} {t : TypeId} {fr : Nat × Nat} (h : w.heap[g]? = some (.cells cs t fr)) (j : Nat) : w.cell? ⟨g, j, none⟩ = cs[j]? := by
  simp [World.cell?, h]
theorem free_at {w : World} {g : Nat} {cs : Array Value} {t : TypeId} (h : w.heap[g]? = some (.cells cs t (0, 0))) (j : Nat) : w.frozen? ⟨g, j, none⟩ = false := by
  simp [World.frozen?, h]

theorem block_set {w : World} {g : Nat} {cs : Array Value} {t : TypeId} {fr : Nat × Nat} (h : w.heap[g]? = some (.cells cs t fr)) (j : Nat) (u : Value) :
    (w.setCell ⟨g, j, none⟩ u).heap[g]? = some (.cells (cs.setIfInBounds j u) t fr) := by
  simp [World.setCell, Array.getElem?_modify, h]

theorem new_any (m : Int) (w : World) :
    Calls Try.prog 7 #[.int .i64 m] w fun e w' => ∃ g, e = .returned (.pointer (some ⟨g, 0, none⟩)) ∧ Feed (fun k => w.heap.size ≤ k ∧ k < w'.heap.size) w' g (if m < 2 then 2 else m) [] false 0 ∧ Fr (fun _ => False) w w' := by
  go_enter Try.func7, Try.ntmps7
  go_wp2
  all_goals
    go_ret
    refine ⟨w.heap.size, rfl, ⟨.slice none 0 0, heap_alloc_new w _, Row.nil _ _ _, by simp [Value.ownBlock], Nat.le_refl _, by simp⟩, Fr.alloc _ w _⟩

theorem need_any (n : Int) (S : Nat → Prop) (w : World) (g : Nat) (most wn : Int) (bs : List UInt8) (wb : Bool) (hF : Feed S w g most bs wb wn) (hn : 0 ≤ n) :
    Calls Try.prog 12 #[.pointer (some ⟨g, 0, none⟩), .int .i64 n] w fun e w' => e = .returned (.tuple #[]) ∧ Feed S w' g most bs true n ∧ Fr S w w' := by
  obtain ⟨v, hb, hr, hne, hg⟩ := hF
  have h2 := cells_at hb 2
  have h3 := cells_at hb 3
  have f2 := free_at hb 2
  have f3 := free_at hb 3
  go_enter Try.func12, Try.ntmps12
  go_wp2
  go_end0
  have hf : Fr S w ((w.setCell ⟨g, 2, none⟩ (.bool true)).setCell ⟨g, 3, none⟩ (.int .i64 n)) := (Fr.setCell w hg _).trans (Fr.setCell _ hg _) fun _ h => .inl h
  refine ⟨rfl, ⟨v, ?_, ?_, hne, hg⟩, hf⟩
  · simpa using block_set (block_set hb 2 (.bool true)) 3 (.int .i64 n)
  · have hf1 : Fr (fun k => k = g) w ((w.setCell ⟨g, 2, none⟩ (.bool true)).setCell ⟨g, 3, none⟩ (.int .i64 n)) := (Fr.setCell (S := fun k => k = g) w (p := ⟨g, 2, none⟩) rfl _).trans (Fr.setCell (S := fun k => k = g) _ (p := ⟨g, 3, none⟩) rfl _) fun _ h => .inl h
    exact (hr.only.fr hf1 fun k hk he => hne (hk.trans (by rw [he]))).mono fun k hk => hr.2 k hk

theorem waiting_any (S : Nat → Prop) (w : World) (g : Nat) (most wn : Int) (bs : List UInt8) (wb : Bool) (hF : Feed S w g most bs wb wn) :
    Calls Try.prog 11 #[.pointer (some ⟨g, 0, none⟩)] w fun e w' => e = .returned (.int .i64 bs.length) ∧ w = w' := by
  obtain ⟨v, hb, hr, hne, hg⟩ := hF
  obtain ⟨A, c, rfl, hc, hm, h0, hs⟩ := hr.slice
  have h1 := cells_at hb 1
  rw [bv_len] at h1
  go_enter Try.func11, Try.ntmps11
  go_wp2
  go_ret
  exact ⟨rfl, rfl⟩


/-- The feed's row stored into its field. -/
theorem feed_store {S T U : Nat → Prop} {w w1 : World} {g : Nat} {most wn : Int} {wb : Bool} {v v' : Value} {l : List UInt8} (hb1 : w1.heap[g]? = some (.cells #[.int .i64 most, v, .bool wb, .int .i64 wn] 41 (0, 0)))
    (hr1 : Row 5 T w1 v' (bv l)) (hTg : ¬ T g) (hf1 : Fr U w w1) (hU : ∀ k, U k → S k ∨ w.heap.size ≤ k) (hg : S g) :
    Feed (fun k => S k ∨ T k) (w1.setCell ⟨g, 1, none⟩ v') g most l wb wn ∧ Fr S w (w1.setCell ⟨g, 1, none⟩ v') := by
  have hfg : Fr (fun k => k = g) w1 (w1.setCell ⟨g, 1, none⟩ v') := Fr.setCell (S := fun k => k = g) w1 (p := ⟨g, 1, none⟩) rfl _
  refine ⟨⟨v', by simpa using block_set hb1 1 v', ?_, ?_, .inl hg⟩, (hf1.mono (T := S) hU).trans hfg fun i hi => .inl (hi ▸ hg)⟩
  · exact (hr1.fr hfg fun k hk he => hTg (he ▸ hk)).mono fun k hk => .inr hk
  · intro he
    exact hTg (hr1.2 g he)

theorem add_any (A : Option Addr) (n c : Nat) (ys : List UInt8) (S : Nat → Prop) (w : World) (g : Nat) (most wn : Int) (bs : List UInt8) (wb : Bool) (hF : Feed S w g most bs wb wn) (hI : In S w) (hs : Src w A (bv ys)) (hn : n = ys.length)
    (hlen : bs.length + ys.length ≤ 1099511627776) :
    Calls Try.prog 8 #[.pointer (some ⟨g, 0, none⟩), .slice A n c] w fun e w' => e = .returned (.tuple #[]) ∧ Feed (ext S w w') w' g most (bs ++ ys) wb wn ∧ Fr S w w' := by
  obtain ⟨v, hb, hr, hne, hg⟩ := hF
  have h1 := cells_at hb 1
  have hone := bv_one ys
  have hl1 := bv_len bs
  have hl2 := bv_len ys
  have HL := hid hl1
  have HM := hid hl2
  clear hl1 hl2
  go_enter Try.func8, Try.ntmps8
  go_wp2_with (at_builtin; (refine wpList_append_row _ rfl _ _ 22 5 rfl (.int .u8 0) 1 Try.underlying22 info_u8 rfl v (bv bs) (bv ys) rfl hr.only A n c rfl (by rw [HM.out]; exact hn) hs hone (by rw [HL.out, HM.out]; omega) (by rw [HL.out, HM.out]; omega) ?_; intro v' w1 hr1 hf1; have hb1 := hf1.heap hb (fun e => hne e); have hc1 := cells_at hb1 1; have hz1 := free_at hb1 1; obtain ⟨A1, c1, rfl, hc2, hm2, h02, hs2⟩ := hr1.slice; clear hc2 hm2 h02 hs2))
  go_end0
  rw [← bv_append] at hr1
  rw [← List.length_append, ← bv_append]
  have hgl : g < w.heap.size := hI g hg
  have hst := feed_store (S := S) hb1 hr1 (fun hk => hk.elim hne (fun h => by omega)) hf1 (fun k hk => .inl (hr.2 k hk)) hg
  refine ⟨rfl, hst.1.mono fun k hk => ?_, hst.2⟩
  rcases hk with hk | hk | hk
  · exact .inl hk
  · exact .inl (hr.2 k hk)
  · exact .inr ⟨by omega, by simpa [World.setCell] using hk.2⟩

set_option maxHeartbeats 2000000 in
theorem take_any (n m : Nat) (S : Nat → Prop) (w : World) (g : Nat) (most wn : Int) (bs : List UInt8) (wb : Bool) (hF : Feed S w g most bs wb wn) (hI : In S w) (hn : n + m ≤ bs.length) (hlen : bs.length ≤ 1099511627776) :
    Calls Try.prog 13 #[.pointer (some ⟨g, 0, none⟩), .int .i64 n, .int .i64 m] w fun e w' => ∃ A c, e = .returned (.slice A n c) ∧ n ≤ c ∧ Src w' A (bv (bs.take n)) ∧ Apart S w w' A (fun S' => Feed S' w' g most (bs.drop (n + m)) wb wn) ∧ Fr S w w' := by
  obtain ⟨v, hb, hr, hne, hg⟩ := hF
  obtain ⟨A, c, rfl, hc, hm, h0, hs⟩ := hr.slice
  have hsrc := hr.src
  simp only [bv_len] at hb hr hne hc
  have h1 := cells_at hb 1
  have hone1 := bv_one (bs.take n)
  have hone2 := bv_one (bs.drop (n + m))
  have hs1 : Src w A (bv (bs.take n)) := by rw [bv_take]; exact hsrc.take n
  have hl1 : n = (bv (bs.take n)).length := by rw [bv_len, List.length_take]; omega
  have hl2 : bs.length - (n + m) = (bv (bs.drop (n + m))).length := by rw [bv_len, List.length_drop]
  have HL := hid hl1
  have HM := hid hl2
  have H0 := hid h0
  clear hl1 hl2 h0 hs
  have hmn : 0 ≤ (n : Int) + m ∧ (n : Int) + m ≤ bs.length := by omega
  have fin : ∀ (w1 w2 : World) (A1 : Option Addr) (c1 : Nat) (v2 : Value), Row 5 (fun k => w.heap.size ≤ k ∧ k < w1.heap.size) w1 (.slice A1 n c1) (bv (bs.take n)) → Fr (fun _ => False) w w1 →
      Row 5 (fun k => w1.heap.size ≤ k ∧ k < w2.heap.size) w2 v2 (bv (bs.drop (n + m))) → Fr (fun _ => False) w1 w2 →
      ∃ A c, Ending.returned (.slice A1 n c1) = .returned (.slice A n c) ∧ n ≤ c ∧ Src (w2.setCell ⟨g, 1, none⟩ v2) A (bv (bs.take n)) ∧ Apart S w (w2.setCell ⟨g, 1, none⟩ v2) A (fun S' => Feed S' (w2.setCell ⟨g, 1, none⟩ v2) g most (bs.drop (n + m)) wb wn) ∧ Fr S w (w2.setCell ⟨g, 1, none⟩ v2) := by
    intro w1 w2 A1 c1 v2 hr1 hf1 hr2 hf2
    have hgl := hI g hg
    have z1 := hf1.size
    have z2 := hf2.size
    have hf := hf1.trans hf2 (fun _ h => .inl h)
    have hb2 := hf.heap hb (fun h => h)
    have hst := feed_store (S := S) (T := fun k => w1.heap.size ≤ k ∧ k < w2.heap.size) hb2 hr2 (fun hk => by omega) hf (fun _ h => h.elim) hg
    obtain ⟨A', c', he, hle, _, _, hblk⟩ := hr1.slice
    simp at he
    have hlen1 : (bs.take n).length = n := by rw [List.length_take]; omega
    rw [bv_len, hlen1] at hle
    refine ⟨A1, c1, rfl, by rw [he.2.2]; exact hle, ?_, ⟨fun k => S k ∨ (w1.heap.size ≤ k ∧ k < w2.heap.size), fun k hk => ?_, fun p hp => ?_, hst.1⟩, hst.2⟩
    case refine_2 =>
      rcases hk with hk | hk
      · exact .inl hk
      · exact .inr ⟨by omega, by simpa [World.setCell] using hk.2⟩
    case refine_3 =>
      have h3 := (hblk p (he.1 ▸ hp)).1
      exact ⟨fun hk => hk.elim (fun h => by have := hI _ h; omega) (fun h => by omega), h3.1⟩
    have hfg : Fr (fun k => k = g) w2 (w2.setCell ⟨g, 1, none⟩ v2) := Fr.setCell (S := fun k => k = g) w2 (p := ⟨g, 1, none⟩) rfl _
    have hr1' := (hr1.fr hf2 (fun _ _ h => h)).fr hfg (fun k hk he => by omega)
    exact hr1'.src
  have fin2 : ∀ (w1 : World) (v1 : Value), Row 5 (fun k => w.heap.size ≤ k ∧ k < w1.heap.size) w1 v1 (bv (bs.take n)) → ∃ A1 c1, v1 = .slice A1 n c1 := by
    intro w1 v1 hr1
    obtain ⟨A', c', he, _⟩ := hr1.slice
    have hlen1 : (bs.take n).length = n := by rw [List.length_take]; omega
    rw [bv_len, hlen1] at he
    exact ⟨A', c', he⟩
  have FIN := hid fin
  have FIN2 := hid fin2
  clear fin fin2
  by_cases hcn : c = n + m
  · have hcc : (c == n + m) = true := by simpa using hcn
    have HC := hid hcn
    clear hcn
    have hs2 : Src w A (bv (bs.drop (n + m))) := by
      have : bs.drop (n + m) = [] := List.drop_eq_nil_of_le (by have := HC.out; omega)
      rw [this]
      exact Src.empty
    go_enter Try.func13, Try.ntmps13
    go_wp2_with (first | (go_at_call 15; refine (clone_any A n c _ _ hs1 (fun h => (H0.out h).2) HL.out hone1 (by rw [← HL.out]; omega)).mono ?_; rintro e w1 ⟨v1, rfl, hr1, hf1⟩; have hb1 := hf1.heap hb (fun h => h); have hc1 := cells_at hb1 1; have hf1b := free_at hb1 1; clear hs1; obtain ⟨A1, c1, rfl⟩ := FIN2.out w1 v1 hr1) | (go_at_call 15; refine (clone_any A _ 0 _ _ (hs2.fr hf1 (fun _ _ h => h)) (fun h => rfl) HM.out hone2 (by rw [← HM.out]; omega)).mono ?_; rintro e w2 ⟨v2, rfl, hr2, hf2⟩; have hb2 := hf2.heap hb1 (fun h => h); have hc2 := cells_at hb2 1; have hf2b := free_at hb2 1; have hsl := hr2.slice; obtain ⟨A2, c2, rfl, hx2⟩ := hsl; clear hx2))
    go_ret
    exact FIN.out _ _ _ _ _ hr1 hf1 hr2 hf2
  · have hcc : (c == n + m) = false := by simpa using hcn
    have hs2 : Src w (Option.map (fun x => x.add (n + m)) A) (bv (bs.drop (n + m))) := by rw [bv_drop]; exact hsrc.drop (n + m)
    go_enter Try.func13, Try.ntmps13
    go_wp2_with (first | (go_at_call 15; refine (clone_any A n c _ _ hs1 (fun h => (H0.out h).2) HL.out hone1 (by rw [← HL.out]; omega)).mono ?_; rintro e w1 ⟨v1, rfl, hr1, hf1⟩; have hb1 := hf1.heap hb (fun h => h); have hc1 := cells_at hb1 1; have hf1b := free_at hb1 1; clear hs1; obtain ⟨A1, c1, rfl⟩ := FIN2.out w1 v1 hr1) | (go_at_call 15; refine (clone_any (Option.map (fun x => x.add (n + m)) A) _ (c - (n + m)) _ _ (hs2.fr hf1 (fun _ _ h => h)) (fun h => by have h3 := (H0.out (by simpa using h)).2; omega) HM.out hone2 (by rw [← HM.out]; omega)).mono ?_; rintro e w2 ⟨v2, rfl, hr2, hf2⟩; have hb2 := hf2.heap hb1 (fun h => h); have hc2 := cells_at hb2 1; have hf2b := free_at hb2 1; have hsl := hr2.slice; obtain ⟨A2, c2, rfl, hx2⟩ := hsl; clear hx2))
    go_ret
    exact FIN.out _ _ _ _ _ hr1 hf1 hr2 hf2

end Go.Proofs.Ytboijleajaiiiaa
