/-
  The walk of FeedLines: it answers true, and of what was there nothing is turned.
-/
import Derived.Test.YtboijleajaiiiaaCuts
import Derived.Test.YtboijleajaiiiaaLinesP
import Derived.Lib.ConvBytes
namespace Go.Proofs.Ytboijleajaiiiaa
open Go.RowKit Own
set_option linter.unusedVariables false
set_option linter.unusedSimpArgs false

/-- The feed and the row of what is wanted. -/
structure Inv2 (B : Nat) (col : Nat → Nat) (w : World) (g : Nat) (bs : List UInt8) (vt : Value) (ts : List ByteArray) : Prop where
  f : Feed (Col B col w 1) w g 512 bs false 0
  t : Row 9 (Col B col w 2) w vt (sv ts)

section
variable {B : Nat} {col : Nat → Nat} {w w' : World} {g : Nat} {bs bs' : List UInt8} {vt vt' : Value} {ts ts' : List ByteArray} {S' : Nat → Prop}
theorem Inv2.stf (h : Inv2 B col w g bs vt ts) : St B (Col B col w 1) w g 512 bs false 0 := ⟨fun k hk => hk.2.1, fun k hk => hk.1, h.f⟩
theorem Inv2.step_f (h : Inv2 B col w g bs vt ts) (hB : B ≤ w.heap.size) (hF : St B S' w' g 512 bs' false 0) (hs : Step (Col B col w 1) S' w w') : Inv2 B (upd col w 1) w' g bs' vt ts :=
  ⟨hF.feed.mono fun k hk => col_ext hB hs.fr.size (hs.sub k hk), Row.old h.t hs.fr (fun k hk => .inl hk) (by decide)⟩
theorem Inv2.step_t (h : Inv2 B col w g bs vt ts) (hB : B ≤ w.heap.size) (hr : Row 9 (fun k => Col B col w 2 k ∨ k = w.heap.size ∧ k < w'.heap.size) w' vt' (sv ts')) (hf : Fr (fun k => vt.ownBlock = some k) w w') : Inv2 B (upd col w 2) w' g bs vt' ts' :=
  have hT : ∀ k, vt.ownBlock = some k → Col B col w 2 k ∨ w.heap.size ≤ k := fun k hk => .inl (h.t.2 k hk)
  ⟨h.f.old hf hT (by decide), hr.mono fun k hk => col_ext hB hf.size (hk.imp id fun h2 => ⟨by omega, h2.2⟩)⟩
theorem Inv2.tmp (h : Inv2 B col w g bs vt ts) (hf : Fr (fun _ => False) w w') : Inv2 B (upd col w 0) w' g bs vt ts :=
  ⟨h.f.old hf (fun _ h => h.elim) (c := 0) (by decide), Row.old h.t hf (fun _ h => h.elim) (c := 0) (by decide)⟩
end

/-- []byte(s): a row of its bytes, new. -/
theorem fr_bytes (w : World) (s : ByteArray) : Fr (fun _ => False) w (Lib.bytesWorld w 5 s) := by
  have hd : (Lib.bytesWorld w 5 s).heap.size = w.heap.size + 1 := Lib.bytesWorld_size w _ s
  refine ⟨?_, ?_, ?_, by omega, fun k hk _ => Lib.bytesWorld_at_old w _ s k hk⟩ <;> simp [Lib.bytesWorld, World.freeze, World.alloc, World.drew, -World.alloc_eq, -World.drew_eq] <;> split <;> rfl
theorem src_bytes (w : World) (l : List UInt8) : Src (Lib.bytesWorld w 5 ⟨l.toArray⟩) (some ⟨w.heap.size, 0, none⟩) (bv l) := by
  refine ⟨fun h => by simp at h, fun p hp j u hu => ?_⟩
  simp at hp
  subst hp
  have hj : j < l.length := by
    rcases Nat.lt_or_ge j l.length with h | h
    · exact h
    · rw [List.getElem?_eq_none (by rw [bv_len]; exact h)] at hu; simp at hu
  rw [Addr.add_lit, Nat.zero_add, Lib.bytesWorld_cell w _ _ j (by simpa [ByteArray.size] using hj)]
  rw [bv, List.getElem?_map, List.getElem?_eq_getElem hj] at hu
  simp at hu
  simp [List.getElem?_eq_getElem hj, hu]

def strs (ts : List (List UInt8)) : List ByteArray := ts.map fun t => ⟨t.toArray⟩
theorem strs_len (ts : List (List UInt8)) : (sv (strs ts)).length = ts.length := by simp [sv, strs]
theorem strs_snoc (ts : List (List UInt8)) (t : List UInt8) : sv (strs ts) ++ sv [⟨t.toArray⟩] = sv (strs (ts ++ [t])) := by simp [sv, strs]

set_option maxHeartbeats 4000000 in
set_option maxRecDepth 100000 in
theorem lines_walk (A0 : Option Addr) (n c0 : Nat) (A : Nat → Option Addr) (C : Nat → Nat) (R : Nat → List UInt8) (w : World) (mm : Int) (hm : w.cell? ⟨0, 0, none⟩ = some (.int .i64 mm))
    (hn : n ≤ 9223372036854775807) (hrow : ∀ r, r < n → ∃ a, A0 = some a ∧ w.cell? (a.add r) = some (.slice (A r) (R r).length (C r)) ∧ Src w (A r) (bv (R r)) ∧ (R r).length ≤ 9223372036854775807) :
    Calls Try.prog 4 #[.slice A0 n c0] w fun e w' => e = .returned (.bool true) ∧ Below w.heap.size w w' := by
  have hg0 : (⟨0, 0, none⟩ : Addr).block < w.heap.size := World.block_lt_of_cell? w _ hm
  go_enter Try.func4, Try.ntmps4
  have HR := hid hrow
  clear hrow
  go_upto_block 0 with (first
    | (go_at_call 6; refine (shown_any w mm hm).mono ?_; rintro e w1 ⟨rfl, L1⟩)
    | (go_at_call 7; refine (new_st w.heap.size 512 w1 L1.size).mono ?_; rintro e w2 ⟨g, S2, rfl, h2, hx2, hf2⟩; replace h2 : St w.heap.size S2 w2 g 512 [] false 0 := h2))
  have L2 : Below w.heap.size w w2 := L1.trans (hf2.below (fun _ h => h.elim) L1.size)
  have I3 : ∃ col, Inv2 w.heap.size col (w2.alloc (.cells #[] 9)) g [] (.slice (some ⟨w2.heap.size, 0, none⟩) 0 0) (strs []) := by
    have z2 := L2.size
    have h0 : Inv2 w.heap.size (fun _ => 1) w2 g [] (.slice none 0 0) [] := ⟨h2.feed.mono fun k hk => ⟨h2.base k hk, h2.lies k hk, rfl⟩, Row.nil _ _ _⟩
    have h6 := h0.step_t (w' := w2.alloc (.cells #[] 9)) (vt' := .slice (some ⟨w2.heap.size, 0, none⟩) 0 0) (ts' := []) z2
      ⟨⟨by simp [sv], .inr ⟨w2.heap.size, 0, #[], rfl, Nat.zero_le _, heap_alloc_new w2 _, Nat.le_refl _, by simp [maxLen], by simp, by simp [sv]⟩⟩, fun k hk => by simp [Value.ownBlock] at hk; subst hk; exact .inr ⟨rfl, by simp⟩⟩ (Fr.alloc _ _ _)
    exact ⟨_, h6⟩
  have L3 : Below w.heap.size w (w2.alloc (.cells #[] 9)) := L2.alloc L2.size _
  have I3' := hid I3
  have L3' := hid L3
  clear I3 L3 L2 L1 h2 hx2 hf2
  obtain ⟨w3, hw3⟩ : ∃ w3 : World, w3 = w2.alloc (.cells #[] 9) := ⟨_, rfl⟩
  rw [← hw3] at I3' L3' ⊢
  clear hw3
  go_cut [5] (fun v5 wx => ∃ (ts : List (List UInt8)) (col : Nat → Nat) (At : Option Addr) (ct : Nat), v5 = .slice At ts.length ct ∧ Inv2 w.heap.size col wx g (Pure.flat ts) (.slice At ts.length ct) (strs ts) ∧ (∀ t ∈ ts, Pure.Good t) ∧ ts.length ≤ 40 ∧ Below w.heap.size w wx)
  case first =>
    go_wp2_with fail
    go_loopw [5, 6] (fun v5 v6 wr => ∃ (i : Nat) (ts : List (List UInt8)) (col : Nat → Nat) (At : Option Addr) (ct : Nat), v6 = .int .i64 i ∧ i ≤ 40 ∧ v5 = .slice At ts.length ct ∧ Inv2 w.heap.size col wr g (Pure.flat ts) (.slice At ts.length ct) (strs ts) ∧ (∀ t ∈ ts, Pure.Good t) ∧ ts.length ≤ i ∧ Below w.heap.size w wr) (fun _ v6 _ => 50 - (intOf v6).toNat)
    case atStart =>
      obtain ⟨col, hI⟩ := I3'.out
      exact ⟨0, [], col, some ⟨w2.heap.size, 0, none⟩, 0, rfl, by omega, rfl, hI, fun t ht => by simp at ht, Nat.le_refl _, L3'.out⟩
    case round =>
      obtain ⟨i, ts, col, At, ct, rfl, hi, rfl, hI, hG, hti, hbel⟩ := hrel
      have HI := hid hI
      have HG := hid hG
      have HB := hid hbel
      clear hI hG hbel
      by_cases h1 : i < n
      · have d1 : decide ((i : Int) < n) = true := decide_eq_true (by omega)
        by_cases h40 : i < 40
        · have d2 : decide ((i : Int) < 40) = true := decide_eq_true (by omega)
          obtain ⟨a, rfl, hc0, hs0, hl0⟩ := HR.out i h1
          have hcr : wr.cell? (a.add i) = some (.slice (A i) (R i).length (C i)) := (HB.out.cell (World.block_lt_of_cell? w _ hc0)).trans hc0
          have hsr := hs0.below HB.out
          obtain ⟨l, hl⟩ : ∃ l, l = R i := ⟨_, rfl⟩
          rw [← hl] at hcr hsr hl0
          have cv := conv_src hsr l.length (C i) rfl
          obtain ⟨s, hs⟩ : ∃ s : ByteArray, s = ⟨l.toArray⟩ := ⟨_, rfl⟩
          rw [← hs] at cv
          have hsz : s.size = l.length := by rw [hs]; simp [ByteArray.size]
          have hsb : ∀ j (hj : j < s.size), l[j]? = some s[j] := by
            intro j hj
            subst hs
            have : j < l.length := by simpa [ByteArray.size] using hj
            rw [List.getElem?_eq_getElem this]
            rfl
          have HL := hid hl
          have HS := hid hs
          have HZ := hid hsz
          have HSB := hid hsb
          have hsl : s.size ≤ 9223372036854775807 := by omega
          clear hl hs hsz hsb hc0 hs0 hsr hl0
          go_upto_region 10 with fail
          go_cut [8] (fun v8 wx => ∃ b : Bool, v8 = .bool b ∧ (b = true → s.size ≤ 500 ∧ l.getLast? ≠ some 13) ∧ wx = wr)
          case first =>
            by_cases h5 : s.size ≤ 500
            · have e1 : decide ((s.size : Int) ≤ 500) = true := decide_eq_true (by omega)
              by_cases h0 : s.size = 0
              · have e2 : ((s.size : Int) == 0) = true := by simp [h0]
                have H0 := hid h0
                clear h0
                go_wp2
                go_meet
                case rel =>
                  have hnil : l = [] := List.eq_nil_of_length_eq_zero (by have := H0.out; have := HZ.out; omega)
                  exact ⟨true, rfl, fun _ => ⟨h5, by rw [hnil]; simp⟩, rfl⟩
              · have e2 : ((s.size : Int) == 0) = false := by simpa using h0
                have hlt : s.size - 1 < s.size := by omega
                have e3 : ((s.size : Int) - 1).toNat = s.size - 1 := by omega
                have hp : 0 < s.size := by omega
                clear h0
                go_wp2
                go_meet
                case rel =>
                  refine ⟨_, rfl, fun h => ⟨h5, fun hl => ?_⟩, rfl⟩
                  have h6 := HSB.out (s.size - 1) hlt
                  rw [List.getLast?_eq_getElem?, ← HZ.out, h6] at hl
                  simp at hl h
                  exact h (by rw [hl]; rfl)
            · have e1 : decide ((s.size : Int) ≤ 500) = false := decide_eq_false (by omega)
              go_wp2
              go_meet
              case rel => exact ⟨false, rfl, fun h => by simp at h, rfl⟩
          case rest =>
            obtain ⟨b0, rfl, hb0, rfl⟩ := hcut
            obtain ⟨wq, hwq⟩ : ∃ wq : World, wq = wc := ⟨_, rfl⟩
            rw [← hwq] at HI HB ⊢
            clear hwq hcr cv
            have HB0 := hid hb0
            clear hb0
            go_wp2_with fail
            go_loop [8, 9] (fun v8 v9 => ∃ (b : Bool) (k : Nat), v8 = .bool b ∧ v9 = .int .i64 k ∧ 1 ≤ k ∧ (k ≤ s.size ∨ k = 1) ∧ (b = true → b0 = true ∧ Pure.Clean l k)) (fun _ v9 => s.size + 1 - (intOf v9).toNat)
            case atStart => exact ⟨b0, 1, rfl, rfl, Nat.le_refl _, .inr rfl, fun h => ⟨h, fun j hj => by omega⟩⟩
            case round =>
              obtain ⟨b, k, rfl, rfl, hk1, hk2, hb⟩ := hrel
              by_cases hks : k < s.size
              · have e1 : decide ((k : Int) < s.size) = true := decide_eq_true (by omega)
                have e2 : ((k : Int) - 1).toNat = k - 1 := by omega
                have hk3 : k - 1 < s.size := by omega
                have HBB := hid hb
                clear hb
                cases b with
                | false =>
                  go_wp2
                  go_round
                  case rel => exact ⟨false, k + 1, rfl, by go_num, by omega, by omega, fun h => by simp at h⟩
                  case measure => simp [intOf]; omega
                | true =>
                  by_cases h13 : s[k - 1] = 13
                  · have e3 : ((s[k - 1].toNat : Int) != 13) = false := by rw [h13]; rfl
                    go_wp2
                    go_round
                    case rel =>
                      refine ⟨_, k + 1, rfl, by go_num, by omega, by omega, fun h => ⟨(HBB.out (by simp)).1, Pure.clean_succ (HBB.out (by simp)).2 (fun j hj _ h10 => ?_)⟩⟩
                      rw [HSB.out k hks] at h10
                      simp at h10 h
                      exact h (by rw [h10]; rfl)
                    case measure => simp [intOf]; omega
                  · have e3 : ((s[k - 1].toNat : Int) != 13) = true := by
                      simp only [bne_iff_ne, ne_eq]
                      intro h
                      exact h13 (UInt8.toNat_inj.1 (by have : s[k - 1].toNat = 13 := by omega
                                                       rw [this]; rfl))
                    go_wp2
                    go_round
                    case rel =>
                      refine ⟨true, k + 1, rfl, by go_num, by omega, by omega, fun h => ⟨(HBB.out (by simp)).1, Pure.clean_succ (HBB.out (by simp)).2 (fun j hj h9 _ => ?_)⟩⟩
                      have : j = k - 1 := by omega
                      rw [this, HSB.out (k - 1) hk3] at h9
                      simp at h9
                      exact h13 h9
                    case measure => simp [intOf]; omega
              · have e1 : decide ((k : Int) < s.size) = false := decide_eq_false (by omega)
                have HBB := hid hb
                clear hb
                cases b with
                | false =>
                  go_wp2
                  go_roundw
                  case rel => exact ⟨i + 1, ts, col, At, ct, by go_num, by omega, rfl, HI.out, HG.out, by omega, HB.out⟩
                  case measure => simp [intOf]; omega
                | true =>
                  have hgood := HBB.out (by simp)
                  have h500 : s.size ≤ 500 := (HB0.out hgood.1).1
                  have hG : Pure.Good l := ⟨by have := HZ.out; omega, (HB0.out hgood.1).2, by have h1 := hgood.2; intro j hj; exact h1 j (by have := HZ.out; omega)⟩
                  have hcat : s ++ (⟨#[13, 10]⟩ : ByteArray) = ⟨(l ++ [13, 10]).toArray⟩ := by
                    have := HS.out
                    subst this
                    apply ByteArray.ext
                    simp [ByteArray.data_append]
                  have hsz2 : (s ++ (⟨#[13, 10]⟩ : ByteArray)).size = l.length + 2 := by rw [hcat]; simp [ByteArray.size]
                  have kb := fun (W : World) => Lib.run_convert_string_bytes (P := Try.prog) W 9 22 5 (s ++ (⟨#[13, 10]⟩ : ByteArray)) Try.underlying9 Try.underlying22 Try.underlying5
                  have HGD := hid hG
                  have HCAT := hid hcat
                  have HSZ2 := hid hsz2
                  have ZB := HB.out.size
                  have hfl := Pure.flat_len ts HG.out
                  have HFL := hid hfl
                  have I0 := hid (HI.out.tmp (fr_bytes wq (s ++ (⟨#[13, 10]⟩ : ByteArray))))
                  have F0 := fr_bytes wq (s ++ (⟨#[13, 10]⟩ : ByteArray))
                  have Z0 := Nat.le_trans ZB F0.size
                  have L0 := hid (HB.out.trans (F0.below (fun _ h => h.elim) ZB))
                  have LT := hid (strs_len ts)
                  clear hgood hG hcat hsz2 hfl F0
                  go_wp2_with (first
                    | (go_at_call 8; refine (add_st _ _ (ys := l ++ [13, 10]) I0.out.stf Z0 (by rw [HCAT.out]; exact src_bytes wq _) (by have := HZ.out; simp; omega) (by have := HFL.out; have := HZ.out; rw [List.length_append]; simp; omega)).mono ?_; rintro e w7 ⟨rfl, S7, h7, u7⟩; rw [← Pure.flat_append] at h7; have I7 := I0.out.step_f Z0 h7 u7; have L7 := L0.out.trans (u7.below (fun k hk => hk.1) Z0); have Z7 := L7.size; clear h7 u7; have T2 := I7.tmp (Fr.alloc (fun _ => False) w7 (.cells #[.string s] 9)); have R2 := T2.t; have TT2 := hid T2; clear I7 T2; have lit2 : Src (w7.alloc (.cells #[.string s] 9)) (some ⟨w7.heap.size, 0, none⟩) (sv [⟨l.toArray⟩]) := (by rw [← HS.out]; exact src_lit w7 #[.string s] 9 (0, 0)); have Z2 : w.heap.size ≤ (w7.alloc (.cells #[.string s] 9)).heap.size := by simp; omega)
                    | (at_builtin; refine wpList_append_row _ rfl (.tmp 81) (.tmp 83) 28 9 rfl (.string ⟨#[]⟩) 16 Try.underlying28 info_str rfl (.slice At ts.length ct) (sv (strs ts)) (sv [⟨l.toArray⟩]) rfl R2 (some ⟨w7.heap.size, 0, none⟩) 1 1 rfl rfl lit2 (sv_one _) (by rw [LT.out]; show ts.length + 1 ≤ 70368744177664; omega) (by rw [LT.out]; show (ts.length + 1) * 16 ≤ 140737488355328; omega) ?_; intro v8 w8 hr8 hf8; rw [strs_snoc ts l] at hr8; have I8 := hid (TT2.out.step_t Z2 hr8 hf8); obtain ⟨A8, c8, rfl⟩ := row_slice_len hr8 (ts.length + 1) (by rw [strs_len]; simp); have fr8 := (Fr.alloc (fun _ => False) w7 (.cells #[.string s] 9)); have L8 : Below w.heap.size w w8 := (L7.trans (fr8.below (fun _ h => h.elim) Z7)).trans (hf8.below (fun k hk => (R2.2 k hk).1) Z2); clear hr8 hf8 R2 lit2 fr8))
                  go_roundw
                  case rel => exact ⟨i + 1, ts ++ [l], _, A8, c8, by go_num, by omega, by simp, by simpa using I8.out, fun t ht => by
                    rcases List.mem_append.1 ht with h | h
                    · exact HG.out t h
                    · simp at h; subst h; exact HGD.out, by simp; omega, L8⟩
                  case measure => simp [intOf]; omega
        · have d2 : decide ((i : Int) < 40) = false := decide_eq_false (by omega)
          go_wp2
          go_meet
          case rel => exact ⟨ts, col, At, ct, rfl, HI.out, HG.out, by omega, HB.out⟩
      · have d1 : decide ((i : Int) < n) = false := decide_eq_false (by omega)
        go_wp2
        go_meet
        case rel => exact ⟨ts, col, At, ct, rfl, HI.out, HG.out, by omega, HB.out⟩
  case rest =>
    obtain ⟨ts, col, At, ct, rfl, hI, hG, htl, hbel⟩ := hcut
    obtain ⟨wo, hwo⟩ : ∃ wo : World, wo = wc := ⟨_, rfl⟩
    rw [← hwo] at hI hbel ⊢
    clear hwo I3' L3'
    have HI := hid hI
    have HG := hid hG
    have HB := hid hbel
    have HFL := hid (Pure.flat_len ts hG)
    clear hI hG hbel
    go_wp2_with fail
    go_loopw [10] (fun v10 wr => ∃ (i : Nat) (col : Nat → Nat), i ≤ ts.length ∧ v10 = .int .i64 i ∧ Inv2 w.heap.size col wr g (Pure.flat (ts.drop i)) (.slice At ts.length ct) (strs ts) ∧ Below w.heap.size w wr) (fun v10 _ => ts.length - (intOf v10).toNat)
    case atStart => exact ⟨0, col, Nat.zero_le _, rfl, by simpa using HI.out, HB.out⟩
    case round =>
      obtain ⟨i, col2, hi, rfl, hI2, hb2⟩ := hrel
      have MM : wr.cell? ⟨0, 0, none⟩ = some (.int .i64 mm) := (hb2.cell hg0).trans hm
      have ZR := hb2.size
      have hmi : (Pure.flat (ts.drop i)).length ≤ 21000 := by
        have := Pure.flat_len (ts.drop i) (fun t ht => HG.out t (List.mem_of_mem_drop ht))
        rw [List.length_drop] at this
        omega
      have HMI := hid hmi
      have HI2 := hid hI2
      have HB2 := hid hb2
      clear hI2 hb2 hmi
      by_cases hil : i < ts.length
      · have d1 : decide ((i : Int) < ts.length) = true := decide_eq_true (by omega)
        obtain ⟨tt, htt⟩ : ∃ tt, tt = ts[i] := ⟨_, rfl⟩
        have hq3 : ts[i]? = some tt := by rw [htt]; exact List.getElem?_eq_getElem hil
        have hgt := HG.out tt (by rw [htt]; exact List.getElem_mem hil)
        have hkt := Pure.good_kind hgt
        have hsp := Pure.flat_split HG.out hq3
        have HKT := hid hkt
        have HSP := hid hsp
        have hx : ∃ pt, At = some pt ∧ ∀ (W : World) (col : Nat → Nat) (bs : List UInt8), Inv2 w.heap.size col W g bs (.slice At ts.length ct) (strs ts) → W.cell? (pt.add i) = some (.string ⟨tt.toArray⟩) := by
          have e2 : (sv (strs ts))[i]? = some (.string ⟨tt.toArray⟩) := by simp [sv, strs, hq3]
          cases At with
          | none => have := HI.out.t.src.1 rfl; rw [this] at e2; simp at e2
          | some pt => exact ⟨pt, rfl, fun W c bs h => h.t.src.2 pt rfl i _ e2⟩
        obtain ⟨pt, rfl, hx2⟩ := hx
        have HX := hid hx2
        have fin : ∀ q : Nat, ∀ (w5 : World) (A5 : Option Addr) (c5 : Nat), Src w5 A5 (bv tt) → (convert 22 9 (.slice A5 tt.length c5)).run Try.prog (w5.drewN q) = .ok (.string ⟨tt.toArray⟩) (w5.drewN q) :=
          fun q w5 A5 c5 h => conv_src (h.fr (Fr.drewN (fun _ => False) w5 q) (fun _ _ h => h)) tt.length c5 rfl
        have FIN := hid fin
        clear fin htt hq3 hgt hkt hsp hx2
        go_upto_region 22 with (go_at_call 10; refine (next_some_new (B := w.heap.size) mm HI2.out.stf ZR HSP.out (by have := HMI.out; omega) MM).mono ?_; rintro e w5 ⟨A5, c5, S5, he, s5, n5, h5, u5⟩; rw [HKT.out.1, HKT.out.2] at he; rw [HKT.out.2] at s5; subst he; have I5 := hid (HI2.out.step_f ZR h5 u5); have L5 := hid (HB2.out.trans (u5.below (fun k hk => hk.1) ZR)); clear h5 u5 n5)
        have cx := HX.out _ _ _ I5.out
        have cv := fun q => FIN.out q w5 A5 c5 s5
        have cv0 := cv 0
        clear s5
        have e3 : ((1 : Int) != 1) = false := rfl
        go_quiet (fail)
        go_wp2
        go_roundw
        case rel => exact ⟨i + 1, _, by omega, by go_num, I5.out.tmp (Fr.drewN (fun _ => False) w5 _), L5.out.trans ((Fr.drewN (fun _ => False) w5 _).below (fun _ h => h.elim) L5.out.size)⟩
        case measure => simp [intOf]; omega
      · have d1 : decide ((i : Int) < ts.length) = false := decide_eq_false (by omega)
        have hnil : Pure.flat (ts.drop i) = [] := by rw [List.drop_eq_nil_of_le (by omega)]; rfl
        have hI4 := HI2.out
        rw [hnil] at hI4
        have HI4 := hid hI4
        clear hI4 hnil
        go_wp2_with (first
          | (go_at_call 10; refine (next_none_new (B := w.heap.size) mm HI4.out.stf ZR rfl (by decide) MM).mono ?_; rintro e w5 ⟨A5, c5, S5, he, s5, n5, h5, u5⟩; replace he : e = .returned (.tuple #[.int .i64 0, .slice A5 0 c5]) := he; subst he; have I5 := hid (HI4.out.step_f ZR h5 u5); have L5 := hid (HB2.out.trans (u5.below (fun k hk => hk.1) ZR)); clear h5 u5 n5 s5)
          | (go_at_call 11; refine (waiting_st (B := w.heap.size) I5.out.stf).mono ?_; rintro e w6 ⟨rfl, rfl⟩))
        go_ret
        exact ⟨rfl, L5.out⟩

end Go.Proofs.Ytboijleajaiiiaa
