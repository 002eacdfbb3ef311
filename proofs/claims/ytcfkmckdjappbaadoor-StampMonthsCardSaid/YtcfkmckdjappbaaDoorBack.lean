/-
  StampBack walked: a moment's date is the moment's alone, and its text is read as it.
-/
import Derived.Test.YtcfkmckdjappbaaDoorOrder
import Derived.Test.YtcfkmckdjappbaaDoorTxt
namespace Go.Proofs.YtcfkmckdjappbaaDoor
open Go.RowKit Own
set_option linter.unusedVariables false
set_option linter.unusedSimpArgs false
set_option maxRecDepth 100000

theorem IsMom.rng {sec y m d h mi s wd : Int} (hM : IsMom sec y m d h mi s wd) (h0 : 0 ≤ sec) (h1 : sec < 4294967296) :
    (2000 ≤ y ∧ y ≤ 2136) ∧ (1 ≤ m ∧ m ≤ 12) ∧ (1 ≤ d ∧ d ≤ 31) ∧ (0 ≤ h ∧ h < 24) ∧ (0 ≤ mi ∧ mi < 60) ∧ (0 ≤ s ∧ s < 60) ∧ (0 ≤ wd ∧ wd < 7) := by
  obtain ⟨hD, e1, e2, e3, e4⟩ := hM
  have hr := hD.rng (by omega) (by omega)
  have hml := Date.mlen_rng y m
  have := hD.d2
  exact ⟨hr, ⟨hD.m1, hD.m2⟩, ⟨hD.d1, by omega⟩, by omega, by omega, by omega, by omega⟩

theorem sec_mom {sec y m d h mi s wd : Int} (hM : IsMom sec y m d h mi s wd) (h0 : 0 ≤ sec) (h1 : sec < 4294967296) : secPair y m d h mi s = (sec, true) := by
  have hr := hM.rng h0 h1
  obtain ⟨hD, e1, e2, e3, e4⟩ := hM
  have hv : Valid y m d h mi s := ⟨by omega, by omega, by omega, by omega, by omega, hD.d2, by omega, by omega, by omega, by omega, by omega, by omega⟩
  unfold secPair
  rw [if_pos hv]
  have := hD.eq
  have : secsOf y m d h mi s = sec := by unfold secsOf; omega
  rw [this]

theorem inB_txt (y m d h mi s : Int) (hm : 1 ≤ m ∧ m ≤ 12) : inB y m d h mi s = str (txtL y m d h mi s 43 0 0) := by
  unfold inB
  rw [monB_L m hm]
  have e1 : ({ data := #[45] } : ByteArray) = str [45] := rfl
  have e2 : ({ data := #[32] } : ByteArray) = str [32] := rfl
  rw [e1, e2]
  simp only [str_append, txtL, clockL, List.append_assoc]
  have e3 : Text.lastL 2 0 = [48, 48] := by decide
  rw [e3]
  rfl
theorem txt_len (y m d h mi s : Int) (g : UInt8) (zh zm : Nat) (hm : 1 ≤ m ∧ m ≤ 12) : (txtL y m d h mi s g zh zm).length = 26 := by
  obtain ⟨m0, m1, m2, hmon⟩ := monL_three m hm
  unfold txtL
  rw [hmon]
  simp [Text.lastL_len, dayL_len]

theorem internal_txt {sec y m d h mi s wd : Int} (hM : IsMom sec y m d h mi s wd) (h0 : 0 ≤ sec) (h1 : sec < 4294967296) (w : World) (hG : Good w) :
    Calls Tryd.prog 14 #[.int .i64 sec] w fun e w' => e = .returned (.string (str (txtL y m d h mi s 43 0 0))) ∧ Below w.heap.size w w' := by
  refine (internal_ok sec w hG.1 hG.2.1 h0 h1).mono ?_
  rintro e w1 ⟨y', m', d', hD', rfl, hb⟩
  have hr := hM.rng h0 h1
  obtain ⟨hD, e1, e2, e3, e4⟩ := hM
  obtain ⟨rfl, rfl, rfl⟩ := hD.uniq hD'
  subst e1 e2 e3
  exact ⟨congrArg (fun x => Ending.returned (.string x)) (inB_txt _ _ _ _ _ _ hr.2.1), hb⟩
theorem header_len {sec y m d h mi s wd : Int} (hM : IsMom sec y m d h mi s wd) (h0 : 0 ≤ sec) (h1 : sec < 4294967296) (w : World) (hG : Good w) :
    Calls Tryd.prog 12 #[.int .i64 sec] w fun e w' => (∃ t : ByteArray, t.size = 31 ∧ e = .returned (.string t)) ∧ Below w.heap.size w w' := by
  refine (header_ok sec w hG.1 hG.2.1 h0 h1).mono ?_
  rintro e w1 ⟨y', m', d', hD', rfl, hb⟩
  refine ⟨⟨_, ?_, rfl⟩, hb⟩
  have sM := monB_size m' ⟨hD'.m1, hD'.m2⟩
  have sW := wdB_size ((sec / 86400 + 6) % 7) (by omega)
  unfold hdB
  simp only [ByteArray.size_append, str_size, Text.lastL_len, clockL_len, sM, sW]
  rfl

theorem back_out (a : Int) (w : World) (hG : Good w) (h : a < 0 ∨ 4294967296 ≤ a) :
    Calls Tryd.prog 7 #[.int .i64 a] w fun e w' => e = .returned (.bool true) ∧ Below w.heap.size w w' := by
  by_cases h0 : a < 0
  · have e0 : decide (a < 0) = true := decide_eq_true h0
    go_enter Tryd.func7, Tryd.ntmps7
    go_wp2_with ((go_at_call 9; refine (shown_any w hG).mono ?_; rintro e w1 ⟨rfl, b1⟩))
    go_ret
    exact ⟨rfl, b1⟩
  have e0 : decide (a < 0) = false := decide_eq_false h0
  have h2 : 4294967296 ≤ a := by omega
  have e2 : decide (4294967296 ≤ a) = true := decide_eq_true h2
  clear h
  go_enter Tryd.func7, Tryd.ntmps7
  go_wp2_with ((go_at_call 9; refine (shown_any w hG).mono ?_; rintro e w1 ⟨rfl, b1⟩))
  go_ret
  exact ⟨rfl, b1⟩

set_option maxHeartbeats 4000000 in
theorem back_in (a : Int) (w : World) (hG : Good w) (h0 : 0 ≤ a) (h1 : a < 4294967296) :
    Calls Tryd.prog 7 #[.int .i64 a] w fun e w' => e = .returned (.bool true) ∧ Below w.heap.size w w' := by
  have e0 : decide (a < 0) = false := decide_eq_false (by omega)
  have e2 : decide (4294967296 ≤ a) = false := decide_eq_false (by omega)
  have tok0 : Tok 0 := ⟨⟩
  go_enter Tryd.func7, Tryd.ntmps7
  go_upto_region 5 with (first
    | (go_at_call 9; refine (shown_any w hG).mono ?_; rintro e w1 ⟨rfl, b1⟩; have G1 := hG.below b1)
    | (go_at_call 10; refine (of_mom a w1 G1 h0 h1).mono ?_; rintro e w2 ⟨y, m, d, h, mi, s, wd, hM, rfl, c2⟩; have b2 := below_then b1 c2))
  have A3 := heap_alloc_new w2 (.cells #[.int .i64 y, .int .i64 m, .int .i64 d, .int .i64 h, .int .i64 mi, .int .i64 s, .int .i64 wd] 24 (0, 0))
  have b3 := b2.alloc b2.size (.cells #[.int .i64 y, .int .i64 m, .int .i64 d, .int .i64 h, .int .i64 mi, .int .i64 s, .int .i64 wd] 24 (0, 0))
  have hr := hM.rng h0 h1
  have hsec := sec_mom hM h0 h1
  have hlen := txt_len y m d h mi s 43 0 0 hr.2.1
  have hpar : parseP (txtL y m d h mi s 43 0 0) = (a, 0) := by
    rw [txt_parse y m d h mi s 43 0 0 (by omega) (by omega) (by omega) (by omega) (by omega) (by omega) (.inl rfl) (by omega) (by omega), hsec]
    unfold momP
    rw [if_pos rfl, if_pos ⟨rfl, by omega, by omega⟩]
    simp
  have cS := fun w' (g : Good w') => second_any y m d h mi s wd w' g.1 g.2.1
  have hmm : momP a true = (a, 0) := by unfold momP; rw [if_pos ⟨rfl, by omega, by omega⟩]
  rw [hsec] at cS
  unfold time7 momOf at cS
  rw [show momP (a, true).1 (a, true).2 = (a, 0) from hmm] at cS
  have cI := fun w' (g : Good w') => internal_txt hM h0 h1 w' g
  have cH := fun w' (g : Good w') => header_len hM h0 h1 w' g
  have cP := fun w' (g : Good w') => parsP (txtL y m d h mi s 43 0 0) w' g
  rw [hpar] at cP
  unfold parseV at cP
  clear hM hr hsec hpar hmm b1 b2 c2 G1
  generalize txtL y m d h mi s 43 0 0 = L at *
  have hsz : (str L).size = 26 := by rw [str_size, hlen]
  generalize str L = t at *
  have r0 := cells_at A3 0
  have r1 := cells_at A3 1
  have r2 := cells_at A3 2
  have r3 := cells_at A3 3
  have r4 := cells_at A3 4
  have r5 := cells_at A3 5
  have r6 := cells_at A3 6
  have G3 := hG.below b3
  have HB3 := hid b3
  clear b3 A3 hlen
  go_wp2_with (first
    | (go_at_call 17; refine (cS _ G3).mono ?_; rintro e w4 ⟨rfl, c4⟩; have b4 := below_then HB3.out c4)
    | (go_at_call 14; have t_ : Tok 0 := ‹Tok 0›; refine (cI _ (hG.below b4)).mono ?_; rintro e w5 ⟨rfl, c5⟩; have b5 := below_then b4 c5; clear t_; clear tok0; have tok1 : Tok 1 := ⟨⟩)
    | (go_at_call 16; refine (cP _ (hG.below b5)).mono ?_; rintro e w6 ⟨rfl, c6⟩; have b6 := below_then b5 c6)
    | (go_at_call 14; have t_ : Tok 1 := ‹Tok 1›; refine (cI _ (hG.below b6)).mono ?_; rintro e w7 ⟨rfl, c7⟩; have b7 := below_then b6 c7; clear t_; clear tok1; have tok2 : Tok 2 := ⟨⟩)
    | (go_at_call 12; refine (cH _ (hG.below b7)).mono ?_; rintro e w8 ⟨⟨t8, ht8, rfl⟩, c8⟩; have b8 := below_then b7 c8))
  go_ret
  exact ⟨rfl, b8⟩

theorem back_walk (a : Int) (w : World) (hG : Good w) :
    Calls Tryd.prog 7 #[.int .i64 a] w fun e w' => e = .returned (.bool true) ∧ Below w.heap.size w w' := by
  by_cases h : a < 0 ∨ 4294967296 ≤ a
  · exact back_out a w hG h
  · exact back_in a w hG (by omega) (by omega)

end Go.Proofs.YtcfkmckdjappbaaDoor
