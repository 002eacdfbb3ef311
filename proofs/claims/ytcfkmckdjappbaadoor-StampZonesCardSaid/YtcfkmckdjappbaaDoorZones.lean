/-
  StampZones walked: an hour's text read at a zone is that hour less the zone.
-/
import Derived.Test.YtcfkmckdjappbaaDoorBack
namespace Go.Proofs.YtcfkmckdjappbaaDoor
open Go.RowKit Own
set_option linter.unusedVariables false
set_option linter.unusedSimpArgs false
set_option maxRecDepth 100000

theorem zones_out (a hz mz : Int) (w : World) (hG : Good w) (h : a < 0 ∨ 4294967296 ≤ a ∨ hz < 0 ∨ 14 < hz ∨ mz < 0 ∨ 59 < mz) :
    Calls Tryd.prog 5 #[.int .i64 a, .int .i64 hz, .int .i64 mz] w fun e w' => e = .returned (.bool true) ∧ Below w.heap.size w w' := by
  by_cases h0 : a < 0
  · have e0 : decide (a < 0) = true := decide_eq_true h0
    clear h
    go_enter Tryd.func5, Tryd.ntmps5
    go_wp2_with ((go_at_call 9; refine (shown_any w hG).mono ?_; rintro e w1 ⟨rfl, b1⟩))
    go_ret
    exact ⟨rfl, b1⟩
  have e0 : decide (a < 0) = false := decide_eq_false h0
  by_cases h1 : 4294967296 ≤ a
  · have e1 : decide (4294967296 ≤ a) = true := decide_eq_true h1
    clear h
    go_enter Tryd.func5, Tryd.ntmps5
    go_wp2_with ((go_at_call 9; refine (shown_any w hG).mono ?_; rintro e w1 ⟨rfl, b1⟩))
    go_ret
    exact ⟨rfl, b1⟩
  have e1 : decide (4294967296 ≤ a) = false := decide_eq_false h1
  by_cases h2 : hz < 0
  · have e2 : decide (hz < 0) = true := decide_eq_true h2
    clear h
    go_enter Tryd.func5, Tryd.ntmps5
    go_wp2_with ((go_at_call 9; refine (shown_any w hG).mono ?_; rintro e w1 ⟨rfl, b1⟩))
    go_ret
    exact ⟨rfl, b1⟩
  have e2 : decide (hz < 0) = false := decide_eq_false h2
  by_cases h3 : 14 < hz
  · have e3 : decide (14 < hz) = true := decide_eq_true h3
    clear h
    go_enter Tryd.func5, Tryd.ntmps5
    go_wp2_with ((go_at_call 9; refine (shown_any w hG).mono ?_; rintro e w1 ⟨rfl, b1⟩))
    go_ret
    exact ⟨rfl, b1⟩
  have e3 : decide (14 < hz) = false := decide_eq_false h3
  by_cases h4 : mz < 0
  · have e4 : decide (mz < 0) = true := decide_eq_true h4
    clear h
    go_enter Tryd.func5, Tryd.ntmps5
    go_wp2_with ((go_at_call 9; refine (shown_any w hG).mono ?_; rintro e w1 ⟨rfl, b1⟩))
    go_ret
    exact ⟨rfl, b1⟩
  have e4 : decide (mz < 0) = false := decide_eq_false h4
  have h5 : 59 < mz := by omega
  have e5 : decide (59 < mz) = true := decide_eq_true h5
  clear h
  go_enter Tryd.func5, Tryd.ntmps5
  go_wp2_with ((go_at_call 9; refine (shown_any w hG).mono ?_; rintro e w1 ⟨rfl, b1⟩))
  go_ret
  exact ⟨rfl, b1⟩

def headT (y m d h mi s : Int) : List UInt8 := dayL d ++ ([45] ++ (monL m ++ ([45] ++ (Text.lastL 4 y.toNat ++ ([32] ++ (Text.lastL 2 h.toNat ++ ([58] ++ (Text.lastL 2 mi.toNat ++ ([58] ++ (Text.lastL 2 s.toNat ++ [32]))))))))))
theorem headT_len (y m d h mi s : Int) (hm : 1 ≤ m ∧ m ≤ 12) : (headT y m d h mi s).length = 21 := by
  obtain ⟨m0, m1, m2, hmon⟩ := monL_three m hm
  unfold headT
  rw [hmon]
  simp [Text.lastL_len, dayL_len]
theorem txt_head (y m d h mi s : Int) (g : UInt8) (zh zm : Nat) : txtL y m d h mi s g zh zm = headT y m d h mi s ++ ([g] ++ (Text.lastL 2 zh ++ Text.lastL 2 zm)) := by
  unfold txtL headT
  simp only [List.append_assoc]
  rfl

theorem internal_mom (a : Int) (w : World) (hG : Good w) (h0 : 0 ≤ a) (h1 : a < 4294967296) :
    Calls Tryd.prog 14 #[.int .i64 a] w fun e w' => ∃ y m d h mi s wd, IsMom a y m d h mi s wd ∧ e = .returned (.string (str (txtL y m d h mi s 43 0 0))) ∧ Below w.heap.size w w' := by
  refine (internal_ok a w hG.1 hG.2.1 h0 h1).mono ?_
  rintro e w1 ⟨y, m, d, hD, rfl, hb⟩
  exact ⟨y, m, d, _, _, _, _, ⟨hD, rfl, rfl, rfl, rfl⟩, congrArg (fun x => Ending.returned (.string x)) (inB_txt _ _ _ _ _ _ ⟨hD.m1, hD.m2⟩), hb⟩

attribute [local go_sem] ByteArray.size_append

set_option maxHeartbeats 4000000 in
theorem zones_in (a hz mz : Int) (w : World) (hG : Good w) (h0 : 0 ≤ a) (h1 : a < 4294967296) (h2 : 0 ≤ hz) (h3 : hz ≤ 14) (h4 : 0 ≤ mz) (h5 : mz ≤ 59) :
    Calls Tryd.prog 5 #[.int .i64 a, .int .i64 hz, .int .i64 mz] w fun e w' => e = .returned (.bool true) ∧ Below w.heap.size w w' := by
  have e0 : decide (a < 0) = false := decide_eq_false (by omega)
  have e1 : decide (4294967296 ≤ a) = false := decide_eq_false (by omega)
  have e2 : decide (hz < 0) = false := decide_eq_false (by omega)
  have e3 : decide (14 < hz) = false := decide_eq_false (by omega)
  have e4 : decide (mz < 0) = false := decide_eq_false (by omega)
  have e5 : decide (59 < mz) = false := decide_eq_false (by omega)
  go_enter Tryd.func5, Tryd.ntmps5
  go_upto_region 5 with (first
    | (go_at_call 9; refine (shown_any w hG).mono ?_; rintro e w1 ⟨rfl, b1⟩; have G1 := hG.below b1)
    | (go_at_call 14; refine (internal_mom a _ G1 h0 h1).mono ?_; rintro e w2 ⟨y, m, d, h, mi, s, wd, hM, rfl, c2⟩; have b2 := below_then b1 c2))
  have hr := hM.rng h0 h1
  have hlen := txt_len y m d h mi s 43 0 0 hr.2.1
  have hsz : (str (txtL y m d h mi s 43 0 0)).size = 26 := by rw [str_size, hlen]
  have hsec := sec_mom hM h0 h1
  have hHl := headT_len y m d h mi s hr.2.1
  have hx21 : (str (txtL y m d h mi s 43 0 0)).extract 0 21 = str (headT y m d h mi s) := by
    rw [str_sl, txt_head]
    congr 1
    simp [sl, ← hHl]
  obtain ⟨Z, hZ⟩ : ∃ Z, Z = Text.lastL 2 hz.toNat ++ Text.lastL 2 mz.toNat := ⟨_, rfl⟩
  have hZl : Z.length = 4 := by rw [hZ]; simp [Text.lastL_len]
  have cv : (convert 32 9 (.slice (some ⟨w2.heap.size, 0, none⟩) 4 4)).run Tryd.prog (w2.alloc (.cells #[.int .u8 (48 + hz / 10), .int .u8 (48 + hz % 10), .int .u8 (48 + mz / 10), .int .u8 (48 + mz % 10)] 5)) = .ok (.string (str Z)) (w2.alloc (.cells #[.int .u8 (48 + hz / 10), .int .u8 (48 + hz % 10), .int .u8 (48 + mz / 10), .int .u8 (48 + mz % 10)] 5)) := by
    have e : #[.int .u8 (48 + hz / 10), .int .u8 (48 + hz % 10), .int .u8 (48 + mz / 10), .int .u8 (48 + mz % 10)] = (bv Z).toArray := by
      rw [hZ, last2, last2]
      simp only [bv, List.cons_append, List.nil_append, List.map_cons, List.map_nil, Text.dg_nat]
      rw [show (48 + hz / 10 : Int) = ((48 + hz.toNat / 10 % 10 : Nat) : Int) by omega, show (48 + hz % 10 : Int) = ((48 + hz.toNat % 10 : Nat) : Int) by omega, show (48 + mz / 10 : Int) = ((48 + mz.toNat / 10 % 10 : Nat) : Int) by omega, show (48 + mz % 10 : Int) = ((48 + mz.toNat % 10 : Nat) : Int) by omega]
    rw [e]
    exact conv_src (out := Z) (src_lit w2 (bv Z).toArray 5 (0, 0)) 4 4 hZl.symm
  obtain ⟨off, hoff⟩ : ∃ off, off = 3600 * hz + 60 * mz := ⟨_, rfl⟩
  have zpar : ∀ g, (g = 43 ∨ g = 45) → parseP (headT y m d h mi s ++ [g] ++ Z) = momP (a + (if g = 43 then -off else off)) true := by
    intro g hg
    rw [hZ, List.append_assoc, ← txt_head, txt_parse y m d h mi s g hz.toNat mz.toNat (by omega) (by omega) (by omega) (by omega) (by omega) (by omega) hg (by omega) (by omega), hsec, hoff]
    rw [show (hz.toNat : Int) = hz by omega, show (mz.toNat : Int) = mz by omega, Int.mul_comm hz, Int.mul_comm mz]
  have z1 := zpar 43 (.inl rfl)
  have z2 := zpar 45 (.inr rfl)
  rw [if_pos rfl] at z1
  rw [if_neg (by decide)] at z2
  have o0 : 0 ≤ off ∧ off ≤ 60000 := by omega
  have r1 : ∃ r e : Int, momP (a + -off) true = (r, e) ∧ ((e = 0 ∧ r = a - off) ∨ (e = 80 ∧ a < off)) := by
    unfold momP
    by_cases c : 0 ≤ a + -off
    · rw [if_pos ⟨rfl, c, by omega⟩]; exact ⟨_, _, rfl, .inl ⟨rfl, by omega⟩⟩
    · rw [if_neg (by omega)]; exact ⟨_, _, rfl, .inr ⟨rfl, by omega⟩⟩
  have r2 : ∃ r e : Int, momP (a + off) true = (r, e) ∧ ((e = 0 ∧ r = a + off) ∨ (e = 80 ∧ 4294967296 ≤ a + off)) := by
    unfold momP
    by_cases c : a + off < 4294967296
    · rw [if_pos ⟨rfl, by omega, c⟩]; exact ⟨_, _, rfl, .inl ⟨rfl, rfl⟩⟩
    · rw [if_neg (by omega)]; exact ⟨_, _, rfl, .inr ⟨rfl, by omega⟩⟩
  obtain ⟨ra, ea, hra, ta⟩ := r1
  obtain ⟨rb, eb, hrb, tb⟩ := r2
  rw [hra] at z1
  rw [hrb] at z2
  have cP1 := fun w' (g : Good w') => parsP (headT y m d h mi s ++ [43] ++ Z) w' g
  have cP2 := fun w' (g : Good w') => parsP (headT y m d h mi s ++ [45] ++ Z) w' g
  rw [z1] at cP1
  rw [z2] at cP2
  unfold parseV at cP1 cP2
  have hap1 : str (headT y m d h mi s) ++ ({ data := #[43] } : ByteArray) ++ str Z = str (headT y m d h mi s ++ [43] ++ Z) := by
    rw [show ({ data := #[43] } : ByteArray) = str [43] from rfl, str_append, str_append]
  have hap2 : str (headT y m d h mi s) ++ ({ data := #[45] } : ByteArray) ++ str Z = str (headT y m d h mi s ++ [45] ++ Z) := by
    rw [show ({ data := #[45] } : ByteArray) = str [45] from rfl, str_append, str_append]
  rw [← hap1] at cP1
  rw [← hap2] at cP2
  have hHs : (str (headT y m d h mi s)).size = 21 := by rw [str_size, hHl]
  have hZs : (str Z).size = 4 := by rw [str_size, hZl]
  have HT := hid (And.intro ta tb)
  clear hM hr hlen hsec hHl hZ zpar z1 z2 hra hrb hap1 hap2 ta tb G1 b1 c2
  generalize str (txtL y m d h mi s 43 0 0) = t at *
  generalize str (headT y m d h mi s) = H at *
  generalize str Z = zs at *
  have HB2 := hid b2
  clear b2 hZl
  have tok0 : Tok 0 := ⟨⟩
  go_upto_region 11 with (first
    | (go_at_call 16; have t_ : Tok 0 := ‹Tok 0›; refine (cP1 _ (hG.below (HB2.out.alloc HB2.out.size _))).mono ?_; rintro e w4 ⟨rfl, c4⟩; have b4 := below_then (HB2.out.alloc HB2.out.size _) c4; clear t_; clear tok0; have tok1 : Tok 1 := ⟨⟩)
    | (go_at_call 16; have t_ : Tok 1 := ‹Tok 1›; refine (cP2 _ (hG.below b4)).mono ?_; rintro e w5 ⟨rfl, c5⟩; have b5 := below_then b4 c5; clear t_; clear tok1; have tok2 : Tok 2 := ⟨⟩))
  have hb5 := hid b5
  obtain ⟨ta, tb⟩ := HT.out
  subst hoff
  clear cP1 cP2 cv HT HB2 b4 b5 c4 c5 hG hsz hHs hZs hx21
  rcases ta with ⟨rfl, rfl⟩ | ⟨rfl, ta⟩
  · rcases tb with ⟨rfl, rfl⟩ | ⟨rfl, tb⟩
    · go_wp2
      go_ret
      exact ⟨rfl, hb5.out⟩
    · have d2 : decide (4294967296 ≤ a + (3600 * hz + 60 * mz)) = true := decide_eq_true tb
      clear tb
      go_wp2
      go_ret
      exact ⟨rfl, hb5.out⟩
  · have d1 : decide (a < 3600 * hz + 60 * mz) = true := decide_eq_true ta
    clear ta
    rcases tb with ⟨rfl, rfl⟩ | ⟨rfl, tb⟩
    · go_wp2
      go_ret
      exact ⟨rfl, hb5.out⟩
    · have d2 : decide (4294967296 ≤ a + (3600 * hz + 60 * mz)) = true := decide_eq_true tb
      clear tb
      go_wp2
      go_ret
      exact ⟨rfl, hb5.out⟩

theorem zones_walk (a hz mz : Int) (w : World) (hG : Good w) :
    Calls Tryd.prog 5 #[.int .i64 a, .int .i64 hz, .int .i64 mz] w fun e w' => e = .returned (.bool true) ∧ Below w.heap.size w w' := by
  by_cases h : a < 0 ∨ 4294967296 ≤ a ∨ hz < 0 ∨ 14 < hz ∨ mz < 0 ∨ 59 < mz
  · exact zones_out a hz mz w hG h
  · exact zones_in a hz mz w hG (by omega) (by omega) (by omega) (by omega) (by omega) (by omega)

end Go.Proofs.YtcfkmckdjappbaaDoor
