/-
  The walk of FeedNeeds: it answers true, and of what was there nothing is turned.
-/
import Derived.Test.YtboijleajaiiiaaShown
import Derived.LoopTactic
import Derived.Deep.LoopGhost
import Derived.Deep.DeepCutAuto
import Derived.Deep.CutBlock
namespace Go.Proofs.Ytboijleajaiiiaa
open Go.RowKit Own
set_option linter.unusedVariables false
set_option linter.unusedSimpArgs false

/-- Whole numbers as cells. -/
def iv (l : List Int) : List Value := l.map fun x => .int .i64 x

set_option maxHeartbeats 4000000 in
set_option maxRecDepth 100000 in
theorem needs_walk (A0 : Option Addr) (n0 c0 : Nat) (bs : List UInt8) (A1 : Option Addr) (n1 c1 : Nat) (zs : List Int) (w : World) (mm : Int) (hm : w.cell? ⟨0, 0, none⟩ = some (.int .i64 mm))
    (hs0 : Src w A0 (bv bs)) (hn0 : n0 = bs.length) (hc0 : n0 ≤ c0) (hm0 : c0 ≤ maxLen) (hA0 : A0 = none → n0 = 0 ∧ c0 = 0)
    (hs1 : Src w A1 (iv zs)) (hn1 : n1 = zs.length) (hm1 : n1 ≤ 2305843009213693952) (hz : ∀ x ∈ zs, -9223372036854775808 ≤ x ∧ x ≤ 9223372036854775807) :
    Calls Try.prog 5 #[.slice A0 n0 c0, .slice A1 n1 c1] w fun e w' => e = .returned (.bool true) ∧ Below w.heap.size w w' := by
  have hg0 : (⟨0, 0, none⟩ : Addr).block < w.heap.size := World.block_lt_of_cell? w _ hm
  have kc := fun (w : World) (C : Array Value) (n c : Nat) => Lib.run_convert_bytes_const (P := Try.prog) w 22 5 C n c Try.underlying22 Try.underlying5
  have hln : n0 ≤ 9223372036854775807 := by unfold maxLen at hm0; omega
  have hlc : c0 ≤ 9223372036854775807 := by unfold maxLen at hm0; omega
  have HN0 := hid hn0
  have HN1 := hid hn1
  have HA0 := hid hA0
  clear hn0 hn1 hA0 hm0
  go_enter Try.func5, Try.ntmps5
  go_upto_if 28 with (first
    | (go_at_call 6; refine (shown_any w mm hm).mono ?_; rintro e w1 ⟨rfl, L1⟩)
    | (go_at_call 7; refine (new_st w.heap.size 60 w1 L1.size).mono ?_; rintro e w2 ⟨g, S2, rfl, h2, hx2, hf2⟩; replace h2 : St w.heap.size S2 w2 g 60 [] false 0 := h2))
  go_cut [0] (fun s0 wx => s0 = .slice A0 (min n0 2000) c0 ∧ wx = w2)
  case first =>
    by_cases hlt : (2000 : Int) < n0
    · have hd : decide ((2000 : Int) < n0) = true := by simpa using hlt
      go_wp2
      go_meet
      case rel => exact ⟨by congr 1; omega, rfl⟩
    · have hd : decide ((2000 : Int) < n0) = false := by simpa using hlt
      go_wp2
      go_meet
      case rel => exact ⟨by congr 1; omega, rfl⟩
  case rest =>
    obtain ⟨rfl, rfl⟩ := hcut
    obtain ⟨n, hn⟩ : ∃ n, n = min n0 2000 := ⟨_, rfl⟩
    rw [← hn]
    obtain ⟨l, hl⟩ : ∃ l, l = bs.take 2000 := ⟨_, rfl⟩
    have hll : l.length = n := by rw [hl, List.length_take, hn, HN0.out]; omega
    have hnb : n ≤ 2000 := by omega
    have hnc : n ≤ c0 := by omega
    have hbl : Below w.heap.size w wc := L1.trans (hf2.below (fun _ h => h.elim) L1.size)
    have hsl : Src w A0 (bv l) := by rw [hl, bv_take]; exact hs0.take 2000
    have HLL := hid hll
    have HL := hid hl
    have HN := hid hn
    have HB := hid hbl
    clear hll hl hn hbl hs0
    go_upto_block 0 with (go_at_call 12; refine (need_st (n : Int) h2 (by omega)).mono ?_; rintro e w3 ⟨rfl, h3, u3⟩)
    go_cut [7] (fun v7 wx => ∃ (a : Nat) (S : Nat → Prop), a ≤ n ∧ v7 = .int .i64 a ∧ St w.heap.size S wx g 60 (l.take a) true n ∧ Below w.heap.size w wx)
    case first =>
      go_wp2_with fail
      go_loopw [7, 8] (fun v7 v8 wr => ∃ (a i : Nat) (S : Nat → Prop), a ≤ n ∧ v7 = .int .i64 a ∧ i ≤ 50 ∧ v8 = .int .i64 i ∧ St w.heap.size S wr g 60 (l.take a) true n ∧ Below w.heap.size w wr) (fun _ v8 _ => 50 - (intOf v8).toNat)
      case atStart => exact ⟨0, 0, S2, Nat.zero_le _, rfl, Nat.zero_le _, rfl, h3, HB.out.trans (u3.below h2.base HB.out.size)⟩
      case round =>
        obtain ⟨a, i, S, ha, rfl, hi, rfl, hF, hbel⟩ := hrel
        by_cases h1 : i < n1
        · have d1 : decide ((i : Int) < n1) = true := decide_eq_true (by omega)
          by_cases h50 : i < 50
          · have d2 : decide ((i : Int) < 50) = true := decide_eq_true (by omega)
            by_cases han : a < n
            · have d3 : decide ((a : Int) < n) = true := by simpa using han
              have hsr := hs1.2
              cases A1 with
              | none =>
                have h0 : zs = [] := by simpa [iv] using hs1.1 rfl
                have := HN1.out
                rw [h0] at this
                simp at this
                omega
              | some p1 =>
                obtain ⟨z, hz0, hzb⟩ : ∃ z, w.cell? (p1.add i) = some (.int .i64 z) ∧ -9223372036854775808 ≤ z ∧ z ≤ 9223372036854775807 := by
                  have hi : i < zs.length := by have := HN1.out; omega
                  exact ⟨zs[i], hs1.2 p1 rfl i _ (by simp [iv, hi]), hz _ (List.getElem_mem hi)⟩
                have hadd : (p1.add i).block = p1.block := by unfold Addr.add; split <;> rfl
                have hzr : wr.cell? (p1.add i) = some (.int .i64 z) := (hbel.cell (World.block_lt_of_cell? w _ hz0)).trans hz0
                clear hadd hz0 hsr
                have hsr : Src wr (Option.map (fun x => x.add a) A0) (bv (l.drop a)) := by rw [bv_drop]; exact (hsl.below hbel).drop a
                have fin : ∀ (m : Nat) (S5 : Nat → Prop) (w5 : World), St w.heap.size S5 w5 g 60 (l.take a ++ (l.drop a).take m) true n → St w.heap.size S5 w5 g 60 (l.take (a + m)) true n := fun m S5 w5 h => by rw [List.take_add]; exact h
                have FIN := hid fin
                have HSR := hid hsr
                clear fin hsr
                go_wp2_with (first
                  | (go_at_call 9; refine (kind_any z 60 _ hzb.1 hzb.2 (by omega) (by omega)).mono ?_; rintro e w4 ⟨⟨k, hk, rfl⟩, rfl⟩; obtain ⟨m, hmin⟩ : ∃ m : Nat, min (k : Int) (n - a) = m := ⟨(min (k : Int) (n - a)).toNat, by omega⟩; have hma : a + m ≤ n := by omega)
                  | (go_at_call 8; refine (add_st _ _ (ys := (l.drop a).take m) hF hbel.size (by rw [bv_take]; exact HSR.out.take m) (by rw [List.length_take, List.length_drop, HLL.out]; omega) (by rw [List.length_take, List.length_take, List.length_drop, HLL.out]; omega)).mono ?_; rintro e w5 ⟨rfl, S5, h5, u5⟩; have F5 := FIN.out m S5 w5 h5; have L5 := hbel.trans (u5.below hF.base hbel.size); clear h5 u5)
                  | (go_at_call 10; refine (next_wait_st (B := w.heap.size) n F5 L5.size (by rw [List.length_take]; omega) (by rw [List.length_take]; omega)).mono ?_; rintro e w6 ⟨A6, c6, S6, he, y6, F6, u6⟩; replace he : e = .returned (.tuple #[.int .i64 0, .slice A6 0 c6]) := he; subst he; have L6 := L5.trans (u6.below F5.base L5.size); clear u6))
                all_goals
                  go_roundw
                  case rel => first | exact ⟨a + m, i + 1, _, hma, by go_num, by omega, by go_num, F6, L6⟩ | exact ⟨a + m, i + 1, _, hma, by go_num, by omega, by go_num, F5, L5⟩
                  case measure => simp [intOf]; omega
            · have d3 : decide ((a : Int) < n) = false := by simpa using han
              go_wp2
              go_meet
              case rel => exact ⟨a, S, ha, rfl, hF, hbel⟩
          · have d2 : decide ((i : Int) < 50) = false := decide_eq_false (by omega)
            go_wp2
            go_meet
            case rel => exact ⟨a, S, ha, rfl, hF, hbel⟩
        · have d1 : decide ((i : Int) < n1) = false := decide_eq_false (by omega)
          go_wp2
          go_meet
          case rel => exact ⟨a, S, ha, rfl, hF, hbel⟩
    case rest =>
      obtain ⟨a, S, ha, rfl, hF, hbel⟩ := hcut
      have M := hbel.cell (p := ⟨0, 0, none⟩) hg0
      rw [hm] at M
      clear h2 hx2 hf2 hm hs1 hz
      obtain ⟨wx, hwx⟩ : ∃ wx : World, wx = wc := ⟨_, rfl⟩
      rw [← hwx] at hF hbel M ⊢
      clear hwx
      have hsd : ∀ (W : World), Fr (fun _ => False) wx W → Src W (if c0 = a then A0 else Option.map (fun x => x.add a) A0) (bv (l.drop a)) := by
        intro W hf
        have h1 := (hsl.below hbel)
        split
        · have : l.drop a = [] := List.drop_eq_nil_of_le (by have := HLL.out; omega)
          rw [this]
          exact Src.empty
        · rw [bv_drop]
          exact (h1.drop a).fr hf (fun _ _ h => h)
      have hrow0 : Row 5 (fun k => k = wx.heap.size) (wx.alloc (.cells #[] 5)) (.slice (some ⟨wx.heap.size, 0, none⟩) 0 0) [] :=
        ⟨⟨by simp, .inr ⟨wx.heap.size, 0, #[], rfl, Nat.zero_le _, heap_alloc_new wx _, Nat.le_refl _, by simp [maxLen], by simp, by simp⟩⟩, fun k hk => by simp [Value.ownBlock] at hk; exact hk.symm⟩
      have hld : n - a = (bv (l.drop a)).length := by rw [bv_len, List.length_drop, HLL.out]
      have step2 : ∀ (w5 w6 : World) (A5 : Option Addr) (n5 c5 : Nat) (v2 : Value), Fr (fun k => (Value.slice (some ⟨wx.heap.size, 0, none⟩) 0 0).ownBlock = some k) (wx.alloc (.cells #[] 5)) w5 →
          Row 5 (fun k => k = wx.heap.size ∨ k = (wx.alloc (.cells #[] 5)).heap.size ∧ k < w5.heap.size) w5 (.slice A5 n5 c5) (bv (l.drop a)) →
          Fr (fun k => (Value.slice A5 n5 c5).ownBlock = some k) (w5.alloc (.cells #[.int .u8 108, .int .u8 105, .int .u8 110, .int .u8 101, .int .u8 13, .int .u8 10] 5 (6, 7))) w6 → Fr (fun _ => False) wx w6 := by
        intro w5 w6 A5 n5 c5 v2 hf5 hr5 hf6
        have z5 := hf5.size
        have h1 := (Fr.alloc (fun _ => False) wx (.cells #[] 5)).trans hf5 (fun i hi => .inr (Nat.le_of_eq (by simpa [Value.ownBlock] using hi)))
        have h2 := h1.trans (Fr.alloc (fun _ => False) w5 (.cells #[.int .u8 108, .int .u8 105, .int .u8 110, .int .u8 101, .int .u8 13, .int .u8 10] 5 (6, 7))) (fun _ h => .inl h)
        exact h2.trans hf6 (fun i hi => .inr (by
          rcases hr5.2 i hi with h | h
          · omega
          · simp at h; omega))
      have hlen1 : l.length = n := HLL.out
      have HLEN := hid hlen1
      have ST := hid step2
      have HSD := hid hsd
      have HLD := hid hld
      have B0 := hid hbel
      have tok0 : Tok 0 := ⟨⟩
      have hone := bv_one (l.drop a)
      have HSL := hid hsl
      clear hlen1 step2 hsd hld hsl hbel
      have arith : ∀ x : Nat, x = (bv (l.drop a)).length → x ≤ 2000 := by intro x hx; rw [bv_len, List.length_drop, HLEN.out] at hx; omega
      have AR := hid arith
      clear arith
      go_wp2_with (first
        | (at_builtin; have t_ : Tok 0 := ‹Tok 0›; refine wpList_append_row _ rfl (.tmp 84) (.tmp 87) 22 5 rfl (.int .u8 0) 1 Try.underlying22 info_u8 rfl (.slice (some ⟨wx.heap.size, 0, none⟩) 0 0) [] (bv (l.drop a)) rfl hrow0 (if c0 = a then A0 else Option.map (fun x => x.add a) A0) (n - a) _ rfl HLD.out (HSD.out _ (Fr.alloc (fun _ => False) wx _)) hone (by have := AR.out _ rfl; show 0 + (bv (l.drop a)).length ≤ 70368744177664; omega) (by have := AR.out _ rfl; show (0 + (bv (l.drop a)).length) * 1 ≤ 140737488355328; omega) ?_; intro v1 w5 hr5 hf5; simp only [List.nil_append] at hr5; obtain ⟨A5, c5, rfl, hx5⟩ := hr5.slice; clear hx5 hrow0 tok0 t_; have tok1 : Tok 1 := ⟨⟩; have hr5' := hr5.fr (Fr.alloc (fun _ => False) w5 (.cells #[.int .u8 108, .int .u8 105, .int .u8 110, .int .u8 101, .int .u8 13, .int .u8 10] 5 (6, 7))) (fun _ _ h => h))
        | (at_builtin; have t_ : Tok 1 := ‹Tok 1›; refine wpList_append_row _ rfl (.tmp 88) (.tmp 90) 22 5 rfl (.int .u8 0) 1 Try.underlying22 info_u8 rfl (.slice A5 (bv (l.drop a)).length c5) (bv (l.drop a)) (bv [108, 105, 110, 101, 13, 10]) rfl hr5' (some ⟨w5.heap.size, 0, none⟩) 6 6 rfl rfl (src_lit w5 #[.int .u8 108, .int .u8 105, .int .u8 110, .int .u8 101, .int .u8 13, .int .u8 10] 5 (6, 7)) (bv_one _) (by have := AR.out _ rfl; show (bv (l.drop a)).length + 6 ≤ 70368744177664; omega) (by have := AR.out _ rfl; show ((bv (l.drop a)).length + 6) * 1 ≤ 140737488355328; omega) ?_; intro v2 w6 hr6 hf6; obtain ⟨A6, c6, rfl, hx6⟩ := hr6.slice; clear hx6 tok1 t_; have tok2 : Tok 2 := ⟨⟩; have f6 := ST.out w5 w6 A5 _ c5 (.slice A5 0 0) hf5 hr5 hf6; have F6 := hF.fr0 f6; have L6 := B0.out.trans (f6.below (fun _ h => h.elim) B0.out.size); have M6 := f6.cell M (fun h => h); have s6 := hr6.src; rw [← bv_append] at s6; clear hr5 hr5' hf5 hf6 hr6 f6 hF)
        | (go_at_call 8; refine (add_st _ _ (ys := l.drop a ++ [108, 105, 110, 101, 13, 10]) F6 L6.size s6 (by simp [bv_len]) (by have h6 : ([108, 105, 110, 101, 13, 10] : List UInt8).length = 6 := rfl; rw [List.length_append, List.length_take, List.length_drop, HLEN.out, h6]; omega)).mono ?_; rintro e w7 ⟨rfl, S7, F7, u7⟩; rw [← List.append_assoc, List.take_append_drop] at F7; have L7 := L6.trans (u7.below F6.base L6.size); have M7 := u7.cell M6 F6.base hg0; clear u7 F6 L6 M6 s6 tok2; have tok3 : Tok 3 := ⟨⟩)
        | (go_at_call 10; have t_ : Tok 3 := ‹Tok 3›; refine (next_bytes_st (B := w.heap.size) n F7 L7.size (by rw [List.length_append, HLEN.out]; omega) (by rw [List.length_append, HLEN.out]; simp; omega)).mono ?_; rintro e w8 ⟨A8, c8, S8, he, y8, F8, u8⟩; rw [List.take_left' HLEN.out] at he y8; rw [List.drop_left' HLEN.out] at F8; subst he; have L8 := L7.trans (u8.below F7.base L7.size); have M8 := u8.cell M7 F7.base hg0; clear u8 F7 L7 M7 tok3 t_; have tok4 : Tok 4 := ⟨⟩)
        | (go_at_call 10; have t_ : Tok 4 := ‹Tok 4›; refine (next_some_st (B := w.heap.size) mm (a := [108, 105, 110, 101]) (r := []) F8 L8.size rfl (by decide) M8).mono ?_; rintro e w9 ⟨A9, c9, S9, he, y9, F9, u9⟩; replace he : e = .returned (.tuple #[.int .i64 1, .slice A9 4 c9]) := he; subst he; have L9 := L8.trans (u9.below F8.base L8.size); have M9 := u9.cell M8 F8.base hg0; have z8 := y8.step u9; clear u9 y8 F8 L8 M8 tok4 t_; have tok5 : Tok 5 := ⟨⟩)
        | (go_at_call 10; have t_ : Tok 5 := ‹Tok 5›; refine (next_none_st (B := w.heap.size) mm F9 L9.size rfl (by decide) M9).mono ?_; rintro e wf ⟨Af, cf, Sf, he, yf, Ff, uf⟩; replace he : e = .returned (.tuple #[.int .i64 0, .slice Af 0 cf]) := he; subst he; have Lf := L9.trans (uf.below F9.base L9.size); have q8 := z8.step uf; have q9 : Held Sf wf A9 [108, 105, 110, 101] := y9.step uf; clear uf yf z8 y9 F9 L9 M9 tok5 t_; have v0 := conv_src ((HSL.out).below Lf) n c0 HLEN.out.symm; have v8 := conv_src q8.1 l.length c8 rfl; have v9 := conv_src q9.1 4 c9 rfl; clear q8 q9)
        | (go_at_call 11; refine (waiting_st (B := w.heap.size) Ff).mono ?_; rintro e wg ⟨rfl, rfl⟩))
      all_goals
        go_ret
        exact ⟨rfl, Lf⟩

end Go.Proofs.Ytboijleajaiiiaa
