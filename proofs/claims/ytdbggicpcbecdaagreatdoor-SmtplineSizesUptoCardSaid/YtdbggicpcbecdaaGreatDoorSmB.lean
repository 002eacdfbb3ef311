/-
  How a command's rest is read: one word, nothing, AUTH's.
-/
import Derived.Test.YtdbggicpcbecdaaGreatDoorSmA
namespace Go.Proofs.YtdbggicpcbecdaaGreatDoor
open Go.RowKit Own Sm
set_option linter.unusedVariables false
set_option linter.unusedSimpArgs false
set_option maxRecDepth 100000
attribute [local go_sem] str_toList

/-- What a reading of the rest comes to. -/
def GotIs (w w' : World) (b : Nat) (W : Bt) (e : Ending) : Got → Prop
  | .error x => e = .returned (.int .i64 x) ∧ x ≠ 0 ∧ Only b w w'
  | .ok (p, a, n) => e = .returned (.int .i64 0) ∧ Only b w w' ∧ CmdAt w' b (W, p, a, n)
theorem sbuf_one (w : World) (x : List UInt8) {B : Nat} (hB : B ≤ w.heap.size) (cs : Array Value) (hc : cs.toList = sv [x]) : SBuf B (w.alloc (.cells cs 9 (0, 0))) (.slice (some ⟨w.heap.size, 0, none⟩) 1 1) [x] := by
  have hsz : cs.size = 1 * 1 := by rw [← Array.length_toList, hc]; rfl
  have := GBuf.lit (e := 9) (sz := 1) w cs 1 (by decide) hsz
  rw [hc] at this
  exact GBuf.mono this hB

set_option maxHeartbeats 1000000 in
theorem one_any (b : Nat) (W rest key : List UInt8) (w : World) (hG : GoodA w) (h : CmdIs w b W [] (.slice none 0 0) 0) :
    Calls Tryz.prog 28 #[.pointer (some ⟨b, 0, none⟩), .string (str rest), .string (str key)] w fun e w' => GotIs w w' b W e (oneR rest) := by
  have hcp := fun V => cutp_any rest [32] V
  rcases pre_one 32 rest with ⟨h1, t, rfl, h2⟩ | ⟨h1, h2⟩
  · rw [h1, h2] at hcp
    have hv := vis_any t w hG
    have HR : Hid (oneR (32 :: t) = if visP t = true then .ok ([], [t], 0) else .error 160) := hid rfl
    clear h1 h2
    cases hq : visP t with
    | true =>
      rw [hq] at hv
      have HQ := hid hq
      clear hq
      have H := hid h
      go_enter Tryz.func28, Tryz.ntmps28
      go_wp2_with (first
        | (go_at_call 38; refine (hcp _).mono ?_; rintro e w1 ⟨rfl, rfl⟩)
        | (go_at_call 39; refine hv.mono ?_; rintro e w2 ⟨rfl, b2⟩; have k2 := (H.out.below b2).alloc (.cells #[.string (str t)] 9); have f2 := k2.free 2; have x2 := k2.c2; have B2 := hid b2; have K2 := hid k2; clear b2 k2))
      go_ret
      rw [HR.out, HQ.out, if_pos rfl]
      have hb := H.out.lt
      have o1 : Only b w (w2.alloc (.cells #[.string (str t)] 9)) := Only.of (B2.out.alloc B2.out.size _) (Nat.le_of_lt hb)
      refine ⟨rfl, o1.trans (Only.set _ _ _ _), (K2.out.set2 _).at_ (SBuf.only (sbuf_one w2 t (Nat.lt_of_lt_of_le hb B2.out.size) _ rfl) (Only.set _ _ _ _) (Nat.lt_succ_self b))⟩
    | false =>
      rw [hq] at hv
      have HQ := hid hq
      clear hq
      have H := hid h
      go_enter Tryz.func28, Tryz.ntmps28
      go_wp2_with (first
        | (go_at_call 38; refine (hcp _).mono ?_; rintro e w1 ⟨rfl, rfl⟩)
        | (go_at_call 39; refine hv.mono ?_; rintro e w2 ⟨rfl, b2⟩; have B2 := hid b2; clear b2))
      go_ret
      rw [HR.out, HQ.out, if_neg (by simp)]
      exact ⟨rfl, by decide, Only.of B2.out (Nat.le_of_lt H.out.lt)⟩
  · rw [h1] at hcp
    have hR : oneR rest = .error 160 := by
      unfold oneR
      split
      · simp at h2
      · rfl
    have H := hid h
    clear h1 h2
    obtain ⟨T, hT⟩ : ∃ T, T = Lib.trimPrefix rest [32] := ⟨_, rfl⟩
    rw [← hT] at hcp
    clear hT
    rw [hR]
    clear hR
    go_enter Tryz.func28, Tryz.ntmps28
    go_wp2_with (go_at_call 38; refine (hcp _).mono ?_; rintro e w1 ⟨rfl, rfl⟩)
    go_ret
    exact ⟨rfl, by decide, Only.refl _ _⟩

theorem nothing_any (b : Nat) (W rest key : List UInt8) (w : World) (h : CmdIs w b W [] (.slice none 0 0) 0) :
    Calls Tryz.prog 29 #[.pointer (some ⟨b, 0, none⟩), .string (str rest), .string (str key)] w fun e w' => GotIs w w' b W e (nothingR rest) := by
  have H := hid h
  by_cases h0 : rest = []
  · have e1 : rest.isEmpty = true := by simpa using h0
    have HR : Hid (nothingR rest = .ok ([], [], 0)) := hid (by rw [h0]; rfl)
    clear h0
    go_enter Tryz.func29, Tryz.ntmps29
    go_wp2_with fail
    go_ret
    rw [HR.out]
    exact ⟨rfl, Only.refl _ _, H.out.at_ (SBuf.nil (H.out.lt))⟩
  · have e1 : rest.isEmpty = false := by simpa using h0
    have HR : Hid (nothingR rest = .error 160) := hid (by unfold nothingR; rw [if_neg h0])
    clear h0
    go_enter Tryz.func29, Tryz.ntmps29
    go_wp2_with fail
    go_ret
    rw [HR.out]
    exact ⟨rfl, by decide, Only.refl _ _⟩

set_option maxHeartbeats 2000000 in
theorem auth_any (b : Nat) (W rest key : List UInt8) (w : World) (hG : GoodA w) (hs : rest.length ≤ 2147483648) (h : CmdIs w b W [] (.slice none 0 0) 0) :
    Calls Tryz.prog 30 #[.pointer (some ⟨b, 0, none⟩), .string (str rest), .string (str key)] w fun e w' => GotIs w w' b W e (authR rest) := by
  have hcp := fun V => cutp_any rest [32] V
  have H := hid h
  rcases pre_one 32 rest with ⟨h1, t, rfl, h2⟩ | ⟨h1, h2⟩
  · rw [h1, h2] at hcp
    have hcut := fun V g => cutsp_any t V g (by simp at hs; omega)
    have hcl : (Lib.cut t [32]).1.length ≤ t.length := by
      rcases Spl.first 32 t with hn | ⟨x, y, rfl, hx⟩
      · rw [Spl.cut_none hn]; exact Nat.le_refl _
      · rw [Spl.cut_at _ hx]; simp
    obtain ⟨k, x, two, hk⟩ : ∃ k x two, Lib.cut t [32] = (k, x, two) := ⟨_, _, _, rfl⟩
    have HR : Hid (authR (32 :: t) = if visP k = false ∨ two = true ∧ visP x = false then .error 160 else .ok ([], great k :: (if two = true then [x] else []), 0)) := hid (by
      show (if visP (Lib.cut t [32]).1 = false ∨ (Lib.cut t [32]).2.2 = true ∧ visP (Lib.cut t [32]).2.1 = false then _ else _) = _
      rw [hk])
    rw [hk] at hcut hcl
    dsimp only at hcut hcl
    have hv1 := fun V g => vis_any k V g
    have hv2 := fun V g => vis_any x V g
    have hgr := fun V => great_any k V (by simp at hs; omega)
    obtain ⟨G, hGk⟩ : ∃ G, G = k.map (moveB 97 65) := ⟨_, rfl⟩
    rw [← hGk] at hgr
    have HGK : Hid (great k = G) := hid hGk.symm
    have tok0 : Tk 0 := ⟨⟩
    clear h1 h2 hk hcl hGk hs
    cases hq : visP k with
    | false =>
      rw [hq] at hv1
      have hR := HR.out
      rw [if_pos (.inl hq)] at hR
      rw [hR]
      clear HR hR hq
      go_enter Tryz.func30, Tryz.ntmps30
      go_wp2_with (first
        | (go_at_call 38; refine (hcp _).mono ?_; rintro e w1 ⟨rfl, rfl⟩)
        | (go_at_call 40; refine (hcut _ hG).mono ?_; rintro e w2 ⟨rfl, b2⟩; have B2 := hid b2; clear b2)
        | (go_at_call 39; refine (hv1 _ (hG.below B2.out)).mono ?_; rintro e w3 ⟨rfl, b3⟩; have B3 := hid (below_then B2.out b3); clear b3))
      go_ret
      exact ⟨rfl, by decide, Only.of B3.out (Nat.le_of_lt H.out.lt)⟩
    | true =>
      rw [hq] at hv1
      cases two with
      | false =>
        have hR := HR.out
        rw [if_neg (by simp [hq]), if_neg (by simp), HGK.out] at hR
        rw [hR]
        clear HR hR hq
        go_enter Tryz.func30, Tryz.ntmps30
        go_wp2_with (first
          | (go_at_call 38; refine (hcp _).mono ?_; rintro e w1 ⟨rfl, rfl⟩)
          | (go_at_call 40; refine (hcut _ hG).mono ?_; rintro e w2 ⟨rfl, b2⟩; have B2 := hid b2; clear b2)
          | (go_at_call 39; refine (hv1 _ (hG.below B2.out)).mono ?_; rintro e w3 ⟨rfl, b3⟩; have B3 := hid (below_then B2.out b3); clear b3)
          | (go_at_call 16; refine (hgr _).mono ?_; rintro e w4 ⟨rfl, b4⟩; have b5 := below_then B3.out b4; have k4 := (H.out.below b5).alloc (.cells #[.string (str G)] 9); have f4 := k4.free 2; have x4 := k4.c2; have B4 := hid b5; have K4 := hid k4; clear b4 b5 k4))
        go_ret
        have hb := H.out.lt
        have o1 : Only b w (w4.alloc (.cells #[.string (str G)] 9)) := Only.of (B4.out.alloc B4.out.size _) (Nat.le_of_lt hb)
        exact ⟨rfl, o1.trans (Only.set _ _ _ _), (K4.out.set2 _).at_ (SBuf.only (sbuf_one w4 G (Nat.lt_of_lt_of_le hb B4.out.size) _ rfl) (Only.set _ _ _ _) (Nat.lt_succ_self b))⟩
      | true =>
        cases hq2 : visP x with
        | false =>
          rw [hq2] at hv2
          have hR := HR.out
          rw [if_pos (.inr ⟨rfl, hq2⟩)] at hR
          rw [hR]
          clear HR hR hq hq2
          go_enter Tryz.func30, Tryz.ntmps30
          go_wp2_with (first
            | (go_at_call 38; refine (hcp _).mono ?_; rintro e w1 ⟨rfl, rfl⟩)
            | (go_at_call 40; refine (hcut _ hG).mono ?_; rintro e w2 ⟨rfl, b2⟩; have B2 := hid b2; clear b2)
            | (go_at_call 39; have t_ : Tk 0 := ‹Tk 0›; refine (hv1 _ (hG.below B2.out)).mono ?_; rintro e w3 ⟨rfl, b3⟩; have B3 := hid (below_then B2.out b3); clear b3; clear t_; clear tok0; have tok1 : Tk 1 := ⟨⟩)
            | (go_at_call 39; have t_ : Tk 1 := ‹Tk 1›; refine (hv2 _ (hG.below B3.out)).mono ?_; rintro e w4 ⟨rfl, b4⟩; have B4 := hid (below_then B3.out b4); clear b4; clear t_; clear tok1; have tok2 : Tk 2 := ⟨⟩))
          go_ret
          exact ⟨rfl, by decide, Only.of B4.out (Nat.le_of_lt H.out.lt)⟩
        | true =>
          rw [hq2] at hv2
          have hR := HR.out
          rw [if_neg (by simp [hq, hq2]), if_pos rfl, HGK.out] at hR
          rw [hR]
          clear HR hR hq hq2
          go_enter Tryz.func30, Tryz.ntmps30
          go_wp2_with (first
            | (go_at_call 38; refine (hcp _).mono ?_; rintro e w1 ⟨rfl, rfl⟩)
            | (go_at_call 40; refine (hcut _ hG).mono ?_; rintro e w2 ⟨rfl, b2⟩; have B2 := hid b2; clear b2)
            | (go_at_call 39; have t_ : Tk 0 := ‹Tk 0›; refine (hv1 _ (hG.below B2.out)).mono ?_; rintro e w3 ⟨rfl, b3⟩; have B3 := hid (below_then B2.out b3); clear b3; clear t_; clear tok0; have tok1 : Tk 1 := ⟨⟩)
            | (go_at_call 39; have t_ : Tk 1 := ‹Tk 1›; refine (hv2 _ (hG.below B3.out)).mono ?_; rintro e w4 ⟨rfl, b4⟩; have B4 := hid (below_then B3.out b4); clear b4; clear t_; clear tok1; have tok2 : Tk 2 := ⟨⟩)
            | (go_at_call 16; refine (hgr _).mono ?_; rintro e w5 ⟨rfl, b5⟩; have b6 := below_then B4.out b5; have k5 := (H.out.below b6).alloc (.cells #[.string (str G)] 9); have f5 := k5.free 2; have x5 := k5.c2; have B5 := hid b6; have k6 := k5.set2 (.slice (some ⟨w5.heap.size, 0, none⟩) 1 1); have x6 := k6.c2; have k7 := k6.alloc (.cells #[.string (str x)] 9); have hb := H.out.lt; have s6 := SBuf.only (sbuf_one w5 G (B := w.heap.size) B5.out.size #[.string (str G)] rfl) (Only.set _ b 2 (.slice (some ⟨w5.heap.size, 0, none⟩) 1 1)) hb; have S7 := hid (s6.alloc (.cells #[.string (str x)] 9)); have o5 : Only b w (w5.alloc (.cells #[.string (str G)] 9)) := Only.of (B5.out.alloc B5.out.size _) (Nat.le_of_lt hb); have o6 := o5.trans (Only.set _ b 2 (.slice (some ⟨w5.heap.size, 0, none⟩) 1 1)); have O7 := hid (o6.trans (Only.of ((Below.refl _ _).alloc (Nat.le_refl _) (.cells #[.string (str x)] 9)) (Nat.le_trans (Nat.le_of_lt hb) o6.size))); have K7 := hid k7; clear b5 b6 k5 k6 s6 o5 o6 k7)
            | (at_builtin; refine wpList_sbuf w.heap.size _ rfl _ _ rfl _ [G] x rfl S7.out _ 1 rfl (slit _ x _ _ _ (by first | rfl | simp) rfl) (by simp) ?_; intro v8 w8 hb8 he8; obtain ⟨A8, c8, rfl, hc8, -⟩ := hb8.full; have k8 := (⟨(he8.block b H.out.lt).trans K7.out.blk⟩ : CmdIs w8 b W [] _ 0); have f8 := k8.free 2; have x8 := k8.c2; have K8 := hid k8; have S8 := hid hb8; have O8 := hid (O7.out.trans' he8 H.out.lt (Nat.le_refl _)); clear k8 hb8 he8))
          go_ret
          exact ⟨rfl, O8.out.trans (Only.set _ _ _ _), (K8.out.set2 _).at_ (SBuf.mono (SBuf.only S8.out (Only.set _ _ _ _) H.out.lt) H.out.lt)⟩
  · rw [h1] at hcp
    have hR : authR rest = .error 160 := by
      unfold authR
      split
      · simp at h2
      · rfl
    have hcl : (Lib.trimPrefix rest [32]).length ≤ rest.length := by unfold Lib.trimPrefix; rw [h1, if_neg (by simp)]; exact Nat.le_refl _
    obtain ⟨T, hT⟩ : ∃ T, T = Lib.trimPrefix rest [32] := ⟨_, rfl⟩
    rw [← hT] at hcp hcl
    have hcut := fun V g => cutsp_any T V g (by omega)
    obtain ⟨k, x, two, hk⟩ : ∃ k x two, Lib.cut T [32] = (k, x, two) := ⟨_, _, _, rfl⟩
    rw [hk] at hcut
    dsimp only at hcut
    clear hT h1 h2 hcl hk hs
    rw [hR]
    clear hR
    go_enter Tryz.func30, Tryz.ntmps30
    go_wp2_with (first
      | (go_at_call 38; refine (hcp _).mono ?_; rintro e w1 ⟨rfl, rfl⟩)
      | (go_at_call 40; refine (hcut _ hG).mono ?_; rintro e w2 ⟨rfl, b2⟩; have B2 := hid b2; clear b2))
    go_ret
    exact ⟨rfl, by decide, Only.of B2.out (Nat.le_of_lt H.out.lt)⟩

end Go.Proofs.YtdbggicpcbecdaaGreatDoor
