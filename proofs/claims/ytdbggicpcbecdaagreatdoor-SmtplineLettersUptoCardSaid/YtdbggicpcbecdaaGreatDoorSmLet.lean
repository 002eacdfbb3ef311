/-
  SmtplineLetters walked.
-/
import Derived.Test.YtdbggicpcbecdaaGreatDoorSmShown
namespace Go.Proofs.YtdbggicpcbecdaaGreatDoor
open Go.RowKit Own Sm
set_option linter.unusedVariables false
set_option linter.unusedSimpArgs false
set_option maxRecDepth 100000
attribute [local go_sem] str_toList

/-- Block b holds a command whose arguments read so. -/
def Held (w : World) (b : Nat) (c : Cmd) : Prop := ∃ A cc, CmdIs w b c.1 c.2.1 (.slice A c.2.2.1.length cc) c.2.2.2 ∧ SrcS w A c.2.2.1
section
variable {w w' : World} {b : Nat} {c : Cmd}
theorem Held.below (h : Held w b c) (hb : Below w.heap.size w w') : Held w' b c := by
  obtain ⟨A, cc, h1, h2⟩ := h
  exact ⟨A, cc, h1.below hb, h2.below hb⟩
theorem Held.alloc (h : Held w b c) (o : Obj) : Held (w.alloc o) b c := h.below ((Below.refl _ _).alloc (Nat.le_refl _) o)
theorem Held.drew (h : Held w b c) : Held w.drew b c := by obtain ⟨A, cc, h1, h2⟩ := h; exact ⟨A, cc, ⟨h1.blk⟩, h2⟩
theorem Held.drewN (h : Held w b c) (q : Nat) : Held (w.drewN q) b c := by obtain ⟨A, cc, h1, h2⟩ := h; exact ⟨A, cc, ⟨h1.blk⟩, h2⟩
end
theorem held_new {B : Nat} {w : World} {W p : Bt} {A : Option Addr} {cc : Nat} {a : List Bt} {n : Int} (h : SBuf B w (.slice A a.length cc) a) : Held (w.alloc (.cells #[.string (str W), .string (str p), .slice A a.length cc, .int .i64 n] 25)) w.heap.size (W, p, a, n) :=
  ⟨A, cc, CmdIs.new w W p _ n, h.src.below ((Below.refl _ _).alloc (Nat.le_refl _) _)⟩
theorem CmdIs.set0 {w : World} {b : Nat} {W p : Bt} {v : Value} {n : Int} (h : CmdIs w b W p v n) (x : Bt) : CmdIs (w.setCell ⟨b, 0, none⟩ (.string (str x))) b x p v n := ⟨block_set h.blk _⟩
/-- The block was there ahead of what is stored in it. -/
theorem late {V v2 : World} {W p : Bt} {A : Option Addr} {cc : Nat} {a : List Bt} {n : Int} (hb : Below (V.alloc (.cells #[.string (str []), .string (str []), .slice none 0 0, .int .i64 0] 25)).heap.size (V.alloc (.cells #[.string (str []), .string (str []), .slice none 0 0, .int .i64 0] 25)) v2)
    (h : SBuf (V.alloc (.cells #[.string (str []), .string (str []), .slice none 0 0, .int .i64 0] 25)).heap.size v2 (.slice A a.length cc) a) :
    Held ((((v2.setCell ⟨V.heap.size, 0, none⟩ (.string (str W))).setCell ⟨V.heap.size, 1, none⟩ (.string (str p))).setCell ⟨V.heap.size, 2, none⟩ (.slice A a.length cc)).setCell ⟨V.heap.size, 3, none⟩ (.int .i64 n)) V.heap.size (W, p, a, n) ∧
    Below V.heap.size V ((((v2.setCell ⟨V.heap.size, 0, none⟩ (.string (str W))).setCell ⟨V.heap.size, 1, none⟩ (.string (str p))).setCell ⟨V.heap.size, 2, none⟩ (.slice A a.length cc)).setCell ⟨V.heap.size, 3, none⟩ (.int .i64 n)) := by
  have hlt : V.heap.size < (V.alloc (.cells #[.string (str []), .string (str []), .slice none 0 0, .int .i64 0] 25)).heap.size := by simp
  have kz := (CmdIs.new V [] [] (.slice none 0 0) 0).below hb
  have s := (((h.only (Only.set v2 V.heap.size 0 (.string (str W))) hlt).only (Only.set _ V.heap.size 1 (.string (str p))) hlt).only (Only.set _ V.heap.size 2 (.slice A a.length cc)) hlt).only (Only.set _ V.heap.size 3 (.int .i64 n)) hlt
  refine ⟨⟨A, cc, (((kz.set0 W).set1 p).set2 _).set3 n, s.src⟩, ?_⟩
  have b0 : Below V.heap.size V v2 := below_then ((Below.refl _ _).alloc (Nat.le_refl _) _) hb
  exact (((b0.setCell (p := ⟨V.heap.size, 0, none⟩) (Nat.le_refl _) _).setCell (p := ⟨V.heap.size, 1, none⟩) (Nat.le_refl _) _).setCell (p := ⟨V.heap.size, 2, none⟩) (Nat.le_refl _) _).setCell (p := ⟨V.heap.size, 3, none⟩) (Nat.le_refl _) _

theorem readR_args {kd : Nat} {key W rest pp : Bt} {aa : List Bt} {nn : Int} (h : readR kd key W rest = .ok (pp, aa, nn)) : aa.length ≤ 1000000 := by
  have one : ∀ {q : Got}, q = .error 160 → q = .ok (pp, aa, nn) → aa.length ≤ 1000000 := fun h1 h2 => by rw [h1] at h2; cases h2
  unfold readR at h
  split at h
  · unfold oneR at h; split at h
    · split at h
      · cases h; simp
      · cases h
    · cases h
  · unfold nothingR at h; split at h
    · cases h; simp
    · cases h
  · unfold authR at h; split at h
    · split at h
      · cases h
      · cases h; split <;> simp
    · cases h
  · unfold pathR at h; split at h
    · split at h
      · cases h
      · dsimp only at h
        split at h
        · cases h
        · split at h
          · cases h
          · split at h
            · cases h
            · cases h; simp
    · cases h
theorem parse_args (l : Bt) : (parseS l).1.2.2.1.length ≤ 1000000 := by
  unfold parseS
  split
  · simp [zero]
  · split
    · simp [zero]
    · split
      · simp [zero]
      · rename_i h; exact readR_args h

set_option maxHeartbeats 16000000 in
theorem letters_walk (l : List UInt8) (bl : Int) (w : World) (hG : GoodC w) (hbl : -9223372036854775808 ≤ bl ∧ bl ≤ 9223372036854775807) (hl : l.length ≤ 1048576) :
    Calls Tryz.prog 3 #[.string (str l), .int .i64 bl] w fun e w' => e = .returned (.bool true) ∧ Below w.heap.size w w' := by
  obtain ⟨m, hm⟩ : ∃ m, m = min 4 l.length := ⟨_, rfl⟩
  have hml : m ≤ l.length := by omega
  have hmm : min (4 : Int) (l.length : Int) = (m : Int) := by omega
  have x1 := str_upto l m
  have x2 := str_from l m l.length rfl
  have hlz := str_size l
  have p1 := fun V g => smparse_any l V g (by omega)
  have p2 := fun V g => smparse_any ((l.take m).map (moveB 65 97) ++ l.drop m) V g (by simp; omega)
  have p3 := fun V g => smparse_any ((l.take m).map (moveB 97 65) ++ l.drop m) V g (by simp; omega)
  rw [parse_turned small_turns l m hm, ← str_append] at p2
  rw [parse_turned great_turns l m hm, ← str_append] at p3
  have p4 := fun k (hk : k ≤ 9) V g => smparse_any (l ++ List.replicate k 32) V g (by simp; omega)
  simp only [parse_blanks] at p4
  have hsm := fun V => rsmall_any (l.take m) V (by simp; omega)
  have hgr := fun V => rgreat_any (l.take m) V (by simp; omega)
  obtain ⟨S1, hS1⟩ : ∃ S, S = (l.take m).map (moveB 65 97) := ⟨_, rfl⟩
  obtain ⟨G1, hG1⟩ : ∃ S, S = (l.take m).map (moveB 97 65) := ⟨_, rfl⟩
  have hz1 : (str S1).size ≤ 1048576 := by rw [str_size, hS1]; simp; omega
  have hz2 : (str G1).size ≤ 1048576 := by rw [str_size, hG1]; simp; omega
  have hz3 : (str (l.drop m)).size ≤ 1048576 := by rw [str_size]; simp; omega
  rw [← hS1] at hsm p2
  rw [← hG1] at hgr p3
  have hal := parse_args l
  obtain ⟨⟨W, p, a, n⟩, E, hPE⟩ : ∃ C E, parseS l = (C, E) := ⟨_, _, rfl⟩
  rw [hPE] at hal
  dsimp only at hal
  rw [hPE] at p1 p2 p3 p4
  dsimp only [SmPost] at p1 p2 p3 p4
  clear hS1 hG1 hPE hm
  go_enter Tryz.func3, Tryz.ntmps3
  go_upto_region 4 with (first
    | (go_at_call 6; refine (shown_any w hG).mono ?_; rintro e w1 ⟨rfl, c1⟩; have B1 := hid c1; clear c1)
    | (go_at_call 7; refine (p1 _ (hG.below B1.out)).mono ?_; rintro e w2 ⟨A7, k7, rfl, s7, c2⟩; have b2 := below_then B1.out c2; have BC := hid (b2.alloc b2.size (.cells #[.string (str W), .string (str p), .slice A7 a.length k7, .int .i64 n] 25)); have HC := hid (held_new (W := W) (p := p) (n := n) s7); clear b2 c2 s7))
  obtain ⟨wa, hwa⟩ : ∃ wa, wa = w2.alloc (.cells #[.string (str W), .string (str p), .slice A7 a.length k7, .int .i64 n] 25) := ⟨_, rfl⟩
  rw [← hwa] at BC HC
  rw [← hwa]
  obtain ⟨b7, hb7⟩ : ∃ b, b = w2.heap.size := ⟨_, rfl⟩
  rw [← hb7] at HC
  rw [← hb7]
  clear hwa hb7
  go_cut [9, 10] (fun v9 v10 wx => ∃ b9, v9 = .pointer (some ⟨b9, 0, none⟩) ∧ v10 = .int .i64 E ∧ Held wx b9 (W, p, a, n) ∧ Held wx b7 (W, p, a, n) ∧ Below w.heap.size w wx)
  case first =>
    go_wp2_with fail
    refine wp_region_held_drew (S := fun _ => True) (by kernel_rfl) trivial (fun hHeld => ?_)
    refine wpAnyH_take (i := 0) (oi := _) (v := ?vq0) rfl (by kernel_rfl) (by kernel_rfl) (by kernel_rfl) (fun _ _ _ h => h) (Or.inl ⟨by rfl, ?yq0⟩) (by assumption) ?rq0
    case yq0 => (intro w hSw; (try dsimp only at hSw); go_simp; try with_reducible rfl)
    try simp only [List.getElem_toArray, List.getElem_cons_zero, List.getElem_cons_succ, Act.put, List.setIfInBounds_toArray, List.set_cons_zero, List.set_cons_succ]
    refine wpAnyH_take (i := 1) (oi := _) (v := ?vq1) rfl (by kernel_rfl) (by kernel_rfl) (by kernel_rfl) (fun _ _ _ h => h) (Or.inl ⟨by rfl, ?yq1⟩) (by assumption) ?rq1
    case yq1 => (intro w hSw; (try dsimp only at hSw); go_simp; try with_reducible rfl)
    try simp only [List.getElem_toArray, List.getElem_cons_zero, List.getElem_cons_succ, Act.put, List.setIfInBounds_toArray, List.set_cons_zero, List.set_cons_succ]
    refine wpAnyH_take (i := 2) (oi := _) (v := ?vq2) rfl (by kernel_rfl) (by kernel_rfl) (by kernel_rfl) (fun _ _ _ h => h) (Or.inl ⟨by rfl, ?yq2⟩) (by assumption) ?rq2
    case yq2 => (intro w hSw; (try dsimp only at hSw); go_simp; try with_reducible rfl)
    try simp only [List.getElem_toArray, List.getElem_cons_zero, List.getElem_cons_succ, Act.put, List.setIfInBounds_toArray, List.set_cons_zero, List.set_cons_succ]
    refine wpAnyH_take (i := 4) (oi := _) (v := ?vq4) rfl (by kernel_rfl) (by kernel_rfl) (by kernel_rfl) (fun _ _ _ h => h) (Or.inl ⟨by rfl, ?yq4⟩) (by assumption) ?rq4
    case yq4 => (intro w hSw; (try dsimp only at hSw); go_simp; try with_reducible rfl)
    try simp only [List.getElem_toArray, List.getElem_cons_zero, List.getElem_cons_succ, Act.put, List.setIfInBounds_toArray, List.set_cons_zero, List.set_cons_succ]
    refine wpAnyH_take (i := 5) (oi := _) (v := ?vq5) rfl (by kernel_rfl) (by kernel_rfl) (by kernel_rfl) (fun _ _ _ h => h) (Or.inl ⟨by rfl, ?yq5⟩) (by assumption) ?rq5
    case yq5 => (intro w hSw; (try dsimp only at hSw); go_simp; try with_reducible rfl)
    try simp only [List.getElem_toArray, List.getElem_cons_zero, List.getElem_cons_succ, Act.put, List.setIfInBounds_toArray, List.set_cons_zero, List.set_cons_succ]
    refine wpAnyH_take (i := 6) (oi := _) (v := ?vq6) rfl (by kernel_rfl) (by kernel_rfl) (by kernel_rfl) (fun _ _ _ h => h) (Or.inl ⟨by rfl, ?yq6⟩) (by assumption) ?rq6
    case yq6 => (intro w hSw; (try dsimp only at hSw); go_simp; try with_reducible rfl)
    try simp only [List.getElem_toArray, List.getElem_cons_zero, List.getElem_cons_succ, Act.put, List.setIfInBounds_toArray, List.set_cons_zero, List.set_cons_succ]
    refine wpAnyH_ready (rs := [3, 12]) (by kernel_rfl) (by simp) ?_
    refine AllReadyH.cons (o := _) rfl (fun K hK => ?_) (AllReadyH.cons (o := _) rfl (fun K hK => ?_) AllReadyH.nil)
    · go_simp
      refine (hsm _).mono ?_
      rintro e v1 ⟨rfl, d1⟩
      have D1 := hid d1
      clear d1
      go_wp2_with fail
      refine hK.out _ _ trivial (fun hHeld2 => ?_)
      have hHeld := hHeld2
      clear hK K hHeld2
      try simp only [List.getElem_toArray, List.getElem_cons_zero, List.getElem_cons_succ, Act.put, List.setIfInBounds_toArray, List.set_cons_zero, List.set_cons_succ]
      refine wpAnyH_take (i := 7) (oi := _) (v := ?vqa7) rfl (by kernel_rfl) (by kernel_rfl) (by kernel_rfl) (fun _ _ _ h => h) (Or.inl ⟨by rfl, ?yqa7⟩) (by assumption) ?rqa7
      case yqa7 => (intro w hSw; (try dsimp only at hSw); go_simp; rw [if_neg (by omega)]; try with_reducible rfl)
      try simp only [List.getElem_toArray, List.getElem_cons_zero, List.getElem_cons_succ, Act.put, List.setIfInBounds_toArray, List.set_cons_zero, List.set_cons_succ]
      refine wpAnyH_ready (rs := [8, 12]) (by kernel_rfl) (by simp) ?_
      refine AllReadyH.cons (o := _) rfl (fun K hK => ?_) (AllReadyH.cons (o := _) rfl (fun K hK => ?_) AllReadyH.nil)
      · go_simp
        refine (p2 _ (hG.below (below_then BC.out.drew D1.out))).mono ?_
        rintro e v2 ⟨A9, k9, rfl, s9, d2⟩
        have S9 := hid s9
        have D2 := hid d2
        clear s9 d2
        go_wp2_with fail
        refine hK.out _ _ trivial (fun hHeld2 => ?_)
        have hHeld := hHeld2
        clear hK K hHeld2
        try simp only [List.getElem_toArray, List.getElem_cons_zero, List.getElem_cons_succ, Act.put, List.setIfInBounds_toArray, List.set_cons_zero, List.set_cons_succ]
        refine wpAnyH_take (i := 9) (oi := _) (v := ?vqb9) rfl (by kernel_rfl) (by kernel_rfl) (by kernel_rfl) (fun _ _ _ h => h) (Or.inl ⟨by rfl, ?yqb9⟩) (by assumption) ?rqb9
        case yqb9 => (intro w hSw; (try dsimp only at hSw); go_simp; try with_reducible rfl)
        try simp only [List.getElem_toArray, List.getElem_cons_zero, List.getElem_cons_succ, Act.put, List.setIfInBounds_toArray, List.set_cons_zero, List.set_cons_succ]
        refine wpAnyH_take (i := 10) (oi := _) (v := ?vqb10) rfl (by kernel_rfl) (by kernel_rfl) (by kernel_rfl) (fun _ _ _ h => h) (Or.inl ⟨by rfl, ?yqb10⟩) (by assumption) ?rqb10
        case yqb10 => (intro w hSw; (try dsimp only at hSw); go_simp; try with_reducible rfl)
        try simp only [List.getElem_toArray, List.getElem_cons_zero, List.getElem_cons_succ, Act.put, List.setIfInBounds_toArray, List.set_cons_zero, List.set_cons_succ]
        refine wpAnyH_take (i := 11) (oi := _) (v := ?vqb11) rfl (by kernel_rfl) (by kernel_rfl) (by kernel_rfl) (fun _ _ _ h => h) (Or.inl ⟨by rfl, ?yqb11⟩) (by assumption) ?rqb11
        case yqb11 => (intro w hSw; (try dsimp only at hSw); go_simp; try with_reducible rfl)
        try simp only [List.getElem_toArray, List.getElem_cons_zero, List.getElem_cons_succ, Act.put, List.setIfInBounds_toArray, List.set_cons_zero, List.set_cons_succ]
        refine wpAnyH_ready (rs := [12]) (by kernel_rfl) (by simp) ?_
        refine AllReadyH.cons (o := _) rfl (fun K hK => ?_) AllReadyH.nil
        go_simp
        refine hK.out _ _ trivial (fun hHeld2 => ?_)
        have hHeld := hHeld2
        clear hK K hHeld2
        try simp only [List.getElem_toArray, List.getElem_cons_zero, List.getElem_cons_succ, Act.put, List.setIfInBounds_toArray, List.set_cons_zero, List.set_cons_succ]
        refine wpAnyH_ready (rs := [13]) (by kernel_rfl) (by simp) ?_
        refine AllReadyH.cons (o := _) rfl (fun K hK => ?_) AllReadyH.nil
        go_simp
        refine hK.out _ _ trivial (fun hHeld2 => ?_)
        have hHeld := hHeld2
        clear hK K hHeld2
        try simp only [List.getElem_toArray, List.getElem_cons_zero, List.getElem_cons_succ, Act.put, List.setIfInBounds_toArray, List.set_cons_zero, List.set_cons_succ]
        refine wpAnyH_take (i := 14) (oi := _) (v := ?vqb14) rfl (by kernel_rfl) (by kernel_rfl) (by kernel_rfl) (fun _ _ _ h => h) (Or.inl ⟨by rfl, ?yqb14⟩) (by assumption) ?rqb14
        case yqb14 => (intro w hSw; (try dsimp only at hSw); go_simp; try with_reducible rfl)
        try simp only [List.getElem_toArray, List.getElem_cons_zero, List.getElem_cons_succ, Act.put, List.setIfInBounds_toArray, List.set_cons_zero, List.set_cons_succ]
        refine wpAnyH_done (by kernel_rfl) ?_ _
        go_wp2_with fail
        go_meet
        case rel => exact ⟨_, rfl, rfl, held_new S9.out, ((HC.out.drew.below D1.out).below D2.out).alloc _, (below_then (below_then BC.out.drew D1.out) D2.out).alloc (below_then (below_then BC.out.drew D1.out) D2.out).size _⟩
      · go_simp
        refine hK.out _ _ trivial (fun hHeld2 => ?_)
        have hHeld := hHeld2
        clear hK K hHeld2
        try simp only [List.getElem_toArray, List.getElem_cons_zero, List.getElem_cons_succ, Act.put, List.setIfInBounds_toArray, List.set_cons_zero, List.set_cons_succ]
        refine wpAnyH_ready (rs := [8]) (by kernel_rfl) (by simp) ?_
        refine AllReadyH.cons (o := _) rfl (fun K hK => ?_) AllReadyH.nil
        go_simp
        refine (p2 _ (hG.below ((below_then BC.out.drew D1.out).alloc (below_then BC.out.drew D1.out).size _))).mono ?_
        rintro e v2 ⟨A9, k9, rfl, s9, d2⟩
        have S9 := hid s9
        have D2 := hid d2
        clear s9 d2
        go_wp2_with fail
        refine hK.out _ _ trivial (fun hHeld2 => ?_)
        have hHeld := hHeld2
        clear hK K hHeld2
        try simp only [List.getElem_toArray, List.getElem_cons_zero, List.getElem_cons_succ, Act.put, List.setIfInBounds_toArray, List.set_cons_zero, List.set_cons_succ]
        refine wpAnyH_take (i := 9) (oi := _) (v := ?vqc9) rfl (by kernel_rfl) (by kernel_rfl) (by kernel_rfl) (fun _ _ _ h => h) (Or.inl ⟨by rfl, ?yqc9⟩) (by assumption) ?rqc9
        case yqc9 => (intro w hSw; (try dsimp only at hSw); go_simp; try with_reducible rfl)
        try simp only [List.getElem_toArray, List.getElem_cons_zero, List.getElem_cons_succ, Act.put, List.setIfInBounds_toArray, List.set_cons_zero, List.set_cons_succ]
        refine wpAnyH_take (i := 10) (oi := _) (v := ?vqc10) rfl (by kernel_rfl) (by kernel_rfl) (by kernel_rfl) (fun _ _ _ h => h) (Or.inl ⟨by rfl, ?yqc10⟩) (by assumption) ?rqc10
        case yqc10 => (intro w hSw; (try dsimp only at hSw); go_simp; try with_reducible rfl)
        try simp only [List.getElem_toArray, List.getElem_cons_zero, List.getElem_cons_succ, Act.put, List.setIfInBounds_toArray, List.set_cons_zero, List.set_cons_succ]
        refine wpAnyH_take (i := 11) (oi := _) (v := ?vqc11) rfl (by kernel_rfl) (by kernel_rfl) (by kernel_rfl) (fun _ _ _ h => h) (Or.inl ⟨by rfl, ?yqc11⟩) (by assumption) ?rqc11
        case yqc11 => (intro w hSw; (try dsimp only at hSw); go_simp; try with_reducible rfl)
        try simp only [List.getElem_toArray, List.getElem_cons_zero, List.getElem_cons_succ, Act.put, List.setIfInBounds_toArray, List.set_cons_zero, List.set_cons_succ]
        have kz : CmdIs v2 v1.heap.size [] [] (.slice none 0 0) 0 := (CmdIs.new v1 [] [] (.slice none 0 0) 0).below D2.out
        have z0 := kz.c0
        have z1 := kz.c1
        have z2 := kz.c2
        have z3 := kz.c3
        have f0 := kz.free 0
        have f1 := kz.free 1
        have f2 := kz.free 2
        have f3 := kz.free 3
        clear kz
        refine wpAnyH_ready (rs := [13]) (by kernel_rfl) (by simp) ?_
        refine AllReadyH.cons (o := _) rfl (fun K hK => ?_) AllReadyH.nil
        go_simp
        refine hK.out _ _ trivial (fun hHeld2 => ?_)
        have hHeld := hHeld2
        clear hK K hHeld2
        try simp only [List.getElem_toArray, List.getElem_cons_zero, List.getElem_cons_succ, Act.put, List.setIfInBounds_toArray, List.set_cons_zero, List.set_cons_succ]
        refine wpAnyH_take (i := 14) (oi := _) (v := ?vqc14) rfl (by kernel_rfl) (by kernel_rfl) (by kernel_rfl) (fun _ _ _ h => h) (Or.inl ⟨by rfl, ?yqc14⟩) (by assumption) ?rqc14
        case yqc14 => (intro w hSw; (try dsimp only at hSw); go_simp; try with_reducible rfl)
        try simp only [List.getElem_toArray, List.getElem_cons_zero, List.getElem_cons_succ, Act.put, List.setIfInBounds_toArray, List.set_cons_zero, List.set_cons_succ]
        refine wpAnyH_done (by kernel_rfl) ?_ _
        go_wp2_with fail
        go_meet
        case rel => exact ⟨_, rfl, rfl, (late D2.out S9.out).1, (HC.out.drew.below D1.out).below (late D2.out S9.out).2, below_then (below_then BC.out.drew D1.out) (late D2.out S9.out).2⟩
    · go_simp
      refine hK.out _ _ trivial (fun hHeld2 => ?_)
      have hHeld := hHeld2
      clear hK K hHeld2
      try simp only [List.getElem_toArray, List.getElem_cons_zero, List.getElem_cons_succ, Act.put, List.setIfInBounds_toArray, List.set_cons_zero, List.set_cons_succ]
      refine wpAnyH_ready (rs := [3]) (by kernel_rfl) (by simp) ?_
      refine AllReadyH.cons (o := _) rfl (fun K hK => ?_) AllReadyH.nil
      go_simp
      refine (hsm _).mono ?_
      rintro e v1 ⟨rfl, d1⟩
      have D1 := hid d1
      clear d1
      go_wp2_with fail
      refine hK.out _ _ trivial (fun hHeld2 => ?_)
      have hHeld := hHeld2
      clear hK K hHeld2
      try simp only [List.getElem_toArray, List.getElem_cons_zero, List.getElem_cons_succ, Act.put, List.setIfInBounds_toArray, List.set_cons_zero, List.set_cons_succ]
      refine wpAnyH_take (i := 7) (oi := _) (v := ?vqd7) rfl (by kernel_rfl) (by kernel_rfl) (by kernel_rfl) (fun _ _ _ h => h) (Or.inl ⟨by rfl, ?yqd7⟩) (by assumption) ?rqd7
      case yqd7 => (intro w hSw; (try dsimp only at hSw); go_simp; rw [if_neg (by omega)]; try with_reducible rfl)
      try simp only [List.getElem_toArray, List.getElem_cons_zero, List.getElem_cons_succ, Act.put, List.setIfInBounds_toArray, List.set_cons_zero, List.set_cons_succ]
      refine wpAnyH_ready (rs := [8]) (by kernel_rfl) (by simp) ?_
      refine AllReadyH.cons (o := _) rfl (fun K hK => ?_) AllReadyH.nil
      go_simp
      refine (p2 _ (hG.below (below_then (BC.out.alloc BC.out.size _).drew D1.out))).mono ?_
      rintro e v2 ⟨A9, k9, rfl, s9, d2⟩
      have S9 := hid s9
      have D2 := hid d2
      clear s9 d2
      go_wp2_with fail
      refine hK.out _ _ trivial (fun hHeld2 => ?_)
      have hHeld := hHeld2
      clear hK K hHeld2
      try simp only [List.getElem_toArray, List.getElem_cons_zero, List.getElem_cons_succ, Act.put, List.setIfInBounds_toArray, List.set_cons_zero, List.set_cons_succ]
      refine wpAnyH_take (i := 9) (oi := _) (v := ?vqd9) rfl (by kernel_rfl) (by kernel_rfl) (by kernel_rfl) (fun _ _ _ h => h) (Or.inl ⟨by rfl, ?yqd9⟩) (by assumption) ?rqd9
      case yqd9 => (intro w hSw; (try dsimp only at hSw); go_simp; try with_reducible rfl)
      try simp only [List.getElem_toArray, List.getElem_cons_zero, List.getElem_cons_succ, Act.put, List.setIfInBounds_toArray, List.set_cons_zero, List.set_cons_succ]
      refine wpAnyH_take (i := 10) (oi := _) (v := ?vqd10) rfl (by kernel_rfl) (by kernel_rfl) (by kernel_rfl) (fun _ _ _ h => h) (Or.inl ⟨by rfl, ?yqd10⟩) (by assumption) ?rqd10
      case yqd10 => (intro w hSw; (try dsimp only at hSw); go_simp; try with_reducible rfl)
      try simp only [List.getElem_toArray, List.getElem_cons_zero, List.getElem_cons_succ, Act.put, List.setIfInBounds_toArray, List.set_cons_zero, List.set_cons_succ]
      refine wpAnyH_take (i := 11) (oi := _) (v := ?vqd11) rfl (by kernel_rfl) (by kernel_rfl) (by kernel_rfl) (fun _ _ _ h => h) (Or.inl ⟨by rfl, ?yqd11⟩) (by assumption) ?rqd11
      case yqd11 => (intro w hSw; (try dsimp only at hSw); go_simp; try with_reducible rfl)
      try simp only [List.getElem_toArray, List.getElem_cons_zero, List.getElem_cons_succ, Act.put, List.setIfInBounds_toArray, List.set_cons_zero, List.set_cons_succ]
      have kz : CmdIs v2 wa.heap.size [] [] (.slice none 0 0) 0 := (CmdIs.new wa.drew [] [] (.slice none 0 0) 0).below (below_then D1.out D2.out)
      have z0 := kz.c0
      have z1 := kz.c1
      have z2 := kz.c2
      have z3 := kz.c3
      have f0 := kz.free 0
      have f1 := kz.free 1
      have f2 := kz.free 2
      have f3 := kz.free 3
      clear kz
      refine wpAnyH_ready (rs := [13]) (by kernel_rfl) (by simp) ?_
      refine AllReadyH.cons (o := _) rfl (fun K hK => ?_) AllReadyH.nil
      go_simp
      refine hK.out _ _ trivial (fun hHeld2 => ?_)
      have hHeld := hHeld2
      clear hK K hHeld2
      try simp only [List.getElem_toArray, List.getElem_cons_zero, List.getElem_cons_succ, Act.put, List.setIfInBounds_toArray, List.set_cons_zero, List.set_cons_succ]
      refine wpAnyH_take (i := 14) (oi := _) (v := ?vqd14) rfl (by kernel_rfl) (by kernel_rfl) (by kernel_rfl) (fun _ _ _ h => h) (Or.inl ⟨by rfl, ?yqd14⟩) (by assumption) ?rqd14
      case yqd14 => (intro w hSw; (try dsimp only at hSw); go_simp; try with_reducible rfl)
      try simp only [List.getElem_toArray, List.getElem_cons_zero, List.getElem_cons_succ, Act.put, List.setIfInBounds_toArray, List.set_cons_zero, List.set_cons_succ]
      refine wpAnyH_done (by kernel_rfl) ?_ _
      go_wp2_with fail
      go_meet
      case rel => exact ⟨_, rfl, rfl, (late (V := wa.drew) (below_then D1.out D2.out) (S9.out.mono D1.out.size)).1, HC.out.drew.below (late (V := wa.drew) (below_then D1.out D2.out) (S9.out.mono D1.out.size)).2, below_then BC.out.drew (late (V := wa.drew) (below_then D1.out D2.out) (S9.out.mono D1.out.size)).2⟩
  case rest =>
    obtain ⟨b9, rfl, rfl, h9, h7, hbx⟩ := hcut
    have HC := hid h7
    have H9 := hid h9
    have BC := hid hbx
    clear h9 h7 hbx
    go_upto_region 5 with fail
    go_cut [11, 12] (fun v11 v12 wx => ∃ b11, v11 = .pointer (some ⟨b11, 0, none⟩) ∧ v12 = .int .i64 E ∧ Held wx b11 (W, p, a, n) ∧ Held wx b9 (W, p, a, n) ∧ Held wx b7 (W, p, a, n) ∧ Below w.heap.size w wx)
    case first =>
      go_wp2_with fail
      refine wp_region_held_drew (S := fun _ => True) (by kernel_rfl) trivial (fun hHeld => ?_)
      refine wpAnyH_take (i := 0) (oi := _) (v := ?vz0) rfl (by kernel_rfl) (by kernel_rfl) (by kernel_rfl) (fun _ _ _ h => h) (Or.inl ⟨by rfl, ?yz0⟩) (by assumption) ?rz0
      case yz0 => (intro w hSw; (try dsimp only at hSw); go_simp; try with_reducible rfl)
      try simp only [List.getElem_toArray, List.getElem_cons_zero, List.getElem_cons_succ, Act.put, List.setIfInBounds_toArray, List.set_cons_zero, List.set_cons_succ]
      refine wpAnyH_take (i := 1) (oi := _) (v := ?vz1) rfl (by kernel_rfl) (by kernel_rfl) (by kernel_rfl) (fun _ _ _ h => h) (Or.inl ⟨by rfl, ?yz1⟩) (by assumption) ?rz1
      case yz1 => (intro w hSw; (try dsimp only at hSw); go_simp; try with_reducible rfl)
      try simp only [List.getElem_toArray, List.getElem_cons_zero, List.getElem_cons_succ, Act.put, List.setIfInBounds_toArray, List.set_cons_zero, List.set_cons_succ]
      refine wpAnyH_take (i := 2) (oi := _) (v := ?vz2) rfl (by kernel_rfl) (by kernel_rfl) (by kernel_rfl) (fun _ _ _ h => h) (Or.inl ⟨by rfl, ?yz2⟩) (by assumption) ?rz2
      case yz2 => (intro w hSw; (try dsimp only at hSw); go_simp; try with_reducible rfl)
      try simp only [List.getElem_toArray, List.getElem_cons_zero, List.getElem_cons_succ, Act.put, List.setIfInBounds_toArray, List.set_cons_zero, List.set_cons_succ]
      refine wpAnyH_take (i := 4) (oi := _) (v := ?vz4) rfl (by kernel_rfl) (by kernel_rfl) (by kernel_rfl) (fun _ _ _ h => h) (Or.inl ⟨by rfl, ?yz4⟩) (by assumption) ?rz4
      case yz4 => (intro w hSw; (try dsimp only at hSw); go_simp; try with_reducible rfl)
      try simp only [List.getElem_toArray, List.getElem_cons_zero, List.getElem_cons_succ, Act.put, List.setIfInBounds_toArray, List.set_cons_zero, List.set_cons_succ]
      refine wpAnyH_take (i := 5) (oi := _) (v := ?vz5) rfl (by kernel_rfl) (by kernel_rfl) (by kernel_rfl) (fun _ _ _ h => h) (Or.inl ⟨by rfl, ?yz5⟩) (by assumption) ?rz5
      case yz5 => (intro w hSw; (try dsimp only at hSw); go_simp; try with_reducible rfl)
      try simp only [List.getElem_toArray, List.getElem_cons_zero, List.getElem_cons_succ, Act.put, List.setIfInBounds_toArray, List.set_cons_zero, List.set_cons_succ]
      refine wpAnyH_take (i := 6) (oi := _) (v := ?vz6) rfl (by kernel_rfl) (by kernel_rfl) (by kernel_rfl) (fun _ _ _ h => h) (Or.inl ⟨by rfl, ?yz6⟩) (by assumption) ?rz6
      case yz6 => (intro w hSw; (try dsimp only at hSw); go_simp; try with_reducible rfl)
      try simp only [List.getElem_toArray, List.getElem_cons_zero, List.getElem_cons_succ, Act.put, List.setIfInBounds_toArray, List.set_cons_zero, List.set_cons_succ]
      refine wpAnyH_ready (rs := [3, 12]) (by kernel_rfl) (by simp) ?_
      refine AllReadyH.cons (o := _) rfl (fun K hK => ?_) (AllReadyH.cons (o := _) rfl (fun K hK => ?_) AllReadyH.nil)
      · go_simp
        refine (hgr _).mono ?_
        rintro e v1 ⟨rfl, d1⟩
        have D1 := hid d1
        clear d1
        go_wp2_with fail
        refine hK.out _ _ trivial (fun hHeld2 => ?_)
        have hHeld := hHeld2
        clear hK K hHeld2
        try simp only [List.getElem_toArray, List.getElem_cons_zero, List.getElem_cons_succ, Act.put, List.setIfInBounds_toArray, List.set_cons_zero, List.set_cons_succ]
        refine wpAnyH_take (i := 7) (oi := _) (v := ?vza7) rfl (by kernel_rfl) (by kernel_rfl) (by kernel_rfl) (fun _ _ _ h => h) (Or.inl ⟨by rfl, ?yza7⟩) (by assumption) ?rza7
        case yza7 => (intro w hSw; (try dsimp only at hSw); go_simp; rw [if_neg (by omega)]; try with_reducible rfl)
        try simp only [List.getElem_toArray, List.getElem_cons_zero, List.getElem_cons_succ, Act.put, List.setIfInBounds_toArray, List.set_cons_zero, List.set_cons_succ]
        refine wpAnyH_ready (rs := [8, 12]) (by kernel_rfl) (by simp) ?_
        refine AllReadyH.cons (o := _) rfl (fun K hK => ?_) (AllReadyH.cons (o := _) rfl (fun K hK => ?_) AllReadyH.nil)
        · go_simp
          refine (p3 _ (hG.below (below_then BC.out.drew D1.out))).mono ?_
          rintro e v2 ⟨A9, k9, rfl, s9, d2⟩
          have S9 := hid s9
          have D2 := hid d2
          clear s9 d2
          go_wp2_with fail
          refine hK.out _ _ trivial (fun hHeld2 => ?_)
          have hHeld := hHeld2
          clear hK K hHeld2
          try simp only [List.getElem_toArray, List.getElem_cons_zero, List.getElem_cons_succ, Act.put, List.setIfInBounds_toArray, List.set_cons_zero, List.set_cons_succ]
          refine wpAnyH_take (i := 9) (oi := _) (v := ?vzb9) rfl (by kernel_rfl) (by kernel_rfl) (by kernel_rfl) (fun _ _ _ h => h) (Or.inl ⟨by rfl, ?yzb9⟩) (by assumption) ?rzb9
          case yzb9 => (intro w hSw; (try dsimp only at hSw); go_simp; try with_reducible rfl)
          try simp only [List.getElem_toArray, List.getElem_cons_zero, List.getElem_cons_succ, Act.put, List.setIfInBounds_toArray, List.set_cons_zero, List.set_cons_succ]
          refine wpAnyH_take (i := 10) (oi := _) (v := ?vzb10) rfl (by kernel_rfl) (by kernel_rfl) (by kernel_rfl) (fun _ _ _ h => h) (Or.inl ⟨by rfl, ?yzb10⟩) (by assumption) ?rzb10
          case yzb10 => (intro w hSw; (try dsimp only at hSw); go_simp; try with_reducible rfl)
          try simp only [List.getElem_toArray, List.getElem_cons_zero, List.getElem_cons_succ, Act.put, List.setIfInBounds_toArray, List.set_cons_zero, List.set_cons_succ]
          refine wpAnyH_take (i := 11) (oi := _) (v := ?vzb11) rfl (by kernel_rfl) (by kernel_rfl) (by kernel_rfl) (fun _ _ _ h => h) (Or.inl ⟨by rfl, ?yzb11⟩) (by assumption) ?rzb11
          case yzb11 => (intro w hSw; (try dsimp only at hSw); go_simp; try with_reducible rfl)
          try simp only [List.getElem_toArray, List.getElem_cons_zero, List.getElem_cons_succ, Act.put, List.setIfInBounds_toArray, List.set_cons_zero, List.set_cons_succ]
          refine wpAnyH_ready (rs := [12]) (by kernel_rfl) (by simp) ?_
          refine AllReadyH.cons (o := _) rfl (fun K hK => ?_) AllReadyH.nil
          go_simp
          refine hK.out _ _ trivial (fun hHeld2 => ?_)
          have hHeld := hHeld2
          clear hK K hHeld2
          try simp only [List.getElem_toArray, List.getElem_cons_zero, List.getElem_cons_succ, Act.put, List.setIfInBounds_toArray, List.set_cons_zero, List.set_cons_succ]
          refine wpAnyH_ready (rs := [13]) (by kernel_rfl) (by simp) ?_
          refine AllReadyH.cons (o := _) rfl (fun K hK => ?_) AllReadyH.nil
          go_simp
          refine hK.out _ _ trivial (fun hHeld2 => ?_)
          have hHeld := hHeld2
          clear hK K hHeld2
          try simp only [List.getElem_toArray, List.getElem_cons_zero, List.getElem_cons_succ, Act.put, List.setIfInBounds_toArray, List.set_cons_zero, List.set_cons_succ]
          refine wpAnyH_take (i := 14) (oi := _) (v := ?vzb14) rfl (by kernel_rfl) (by kernel_rfl) (by kernel_rfl) (fun _ _ _ h => h) (Or.inl ⟨by rfl, ?yzb14⟩) (by assumption) ?rzb14
          case yzb14 => (intro w hSw; (try dsimp only at hSw); go_simp; try with_reducible rfl)
          try simp only [List.getElem_toArray, List.getElem_cons_zero, List.getElem_cons_succ, Act.put, List.setIfInBounds_toArray, List.set_cons_zero, List.set_cons_succ]
          refine wpAnyH_done (by kernel_rfl) ?_ _
          go_wp2_with fail
          go_meet
          case rel => exact ⟨_, rfl, rfl, held_new S9.out, (((H9.out.drew.below D1.out).below D2.out).alloc _), ((HC.out.drew.below D1.out).below D2.out).alloc _, (below_then (below_then BC.out.drew D1.out) D2.out).alloc (below_then (below_then BC.out.drew D1.out) D2.out).size _⟩
        · go_simp
          refine hK.out _ _ trivial (fun hHeld2 => ?_)
          have hHeld := hHeld2
          clear hK K hHeld2
          try simp only [List.getElem_toArray, List.getElem_cons_zero, List.getElem_cons_succ, Act.put, List.setIfInBounds_toArray, List.set_cons_zero, List.set_cons_succ]
          refine wpAnyH_ready (rs := [8]) (by kernel_rfl) (by simp) ?_
          refine AllReadyH.cons (o := _) rfl (fun K hK => ?_) AllReadyH.nil
          go_simp
          refine (p3 _ (hG.below ((below_then BC.out.drew D1.out).alloc (below_then BC.out.drew D1.out).size _))).mono ?_
          rintro e v2 ⟨A9, k9, rfl, s9, d2⟩
          have S9 := hid s9
          have D2 := hid d2
          clear s9 d2
          go_wp2_with fail
          refine hK.out _ _ trivial (fun hHeld2 => ?_)
          have hHeld := hHeld2
          clear hK K hHeld2
          try simp only [List.getElem_toArray, List.getElem_cons_zero, List.getElem_cons_succ, Act.put, List.setIfInBounds_toArray, List.set_cons_zero, List.set_cons_succ]
          refine wpAnyH_take (i := 9) (oi := _) (v := ?vzc9) rfl (by kernel_rfl) (by kernel_rfl) (by kernel_rfl) (fun _ _ _ h => h) (Or.inl ⟨by rfl, ?yzc9⟩) (by assumption) ?rzc9
          case yzc9 => (intro w hSw; (try dsimp only at hSw); go_simp; try with_reducible rfl)
          try simp only [List.getElem_toArray, List.getElem_cons_zero, List.getElem_cons_succ, Act.put, List.setIfInBounds_toArray, List.set_cons_zero, List.set_cons_succ]
          refine wpAnyH_take (i := 10) (oi := _) (v := ?vzc10) rfl (by kernel_rfl) (by kernel_rfl) (by kernel_rfl) (fun _ _ _ h => h) (Or.inl ⟨by rfl, ?yzc10⟩) (by assumption) ?rzc10
          case yzc10 => (intro w hSw; (try dsimp only at hSw); go_simp; try with_reducible rfl)
          try simp only [List.getElem_toArray, List.getElem_cons_zero, List.getElem_cons_succ, Act.put, List.setIfInBounds_toArray, List.set_cons_zero, List.set_cons_succ]
          refine wpAnyH_take (i := 11) (oi := _) (v := ?vzc11) rfl (by kernel_rfl) (by kernel_rfl) (by kernel_rfl) (fun _ _ _ h => h) (Or.inl ⟨by rfl, ?yzc11⟩) (by assumption) ?rzc11
          case yzc11 => (intro w hSw; (try dsimp only at hSw); go_simp; try with_reducible rfl)
          try simp only [List.getElem_toArray, List.getElem_cons_zero, List.getElem_cons_succ, Act.put, List.setIfInBounds_toArray, List.set_cons_zero, List.set_cons_succ]
          have kz : CmdIs v2 v1.heap.size [] [] (.slice none 0 0) 0 := (CmdIs.new v1 [] [] (.slice none 0 0) 0).below D2.out
          have z0 := kz.c0
          have z1 := kz.c1
          have z2 := kz.c2
          have z3 := kz.c3
          have f0 := kz.free 0
          have f1 := kz.free 1
          have f2 := kz.free 2
          have f3 := kz.free 3
          clear kz
          refine wpAnyH_ready (rs := [13]) (by kernel_rfl) (by simp) ?_
          refine AllReadyH.cons (o := _) rfl (fun K hK => ?_) AllReadyH.nil
          go_simp
          refine hK.out _ _ trivial (fun hHeld2 => ?_)
          have hHeld := hHeld2
          clear hK K hHeld2
          try simp only [List.getElem_toArray, List.getElem_cons_zero, List.getElem_cons_succ, Act.put, List.setIfInBounds_toArray, List.set_cons_zero, List.set_cons_succ]
          refine wpAnyH_take (i := 14) (oi := _) (v := ?vzc14) rfl (by kernel_rfl) (by kernel_rfl) (by kernel_rfl) (fun _ _ _ h => h) (Or.inl ⟨by rfl, ?yzc14⟩) (by assumption) ?rzc14
          case yzc14 => (intro w hSw; (try dsimp only at hSw); go_simp; try with_reducible rfl)
          try simp only [List.getElem_toArray, List.getElem_cons_zero, List.getElem_cons_succ, Act.put, List.setIfInBounds_toArray, List.set_cons_zero, List.set_cons_succ]
          refine wpAnyH_done (by kernel_rfl) ?_ _
          go_wp2_with fail
          go_meet
          case rel => exact ⟨_, rfl, rfl, (late D2.out S9.out).1, ((H9.out.drew.below D1.out).below (late D2.out S9.out).2), (HC.out.drew.below D1.out).below (late D2.out S9.out).2, below_then (below_then BC.out.drew D1.out) (late D2.out S9.out).2⟩
      · go_simp
        refine hK.out _ _ trivial (fun hHeld2 => ?_)
        have hHeld := hHeld2
        clear hK K hHeld2
        try simp only [List.getElem_toArray, List.getElem_cons_zero, List.getElem_cons_succ, Act.put, List.setIfInBounds_toArray, List.set_cons_zero, List.set_cons_succ]
        refine wpAnyH_ready (rs := [3]) (by kernel_rfl) (by simp) ?_
        refine AllReadyH.cons (o := _) rfl (fun K hK => ?_) AllReadyH.nil
        go_simp
        refine (hgr _).mono ?_
        rintro e v1 ⟨rfl, d1⟩
        have D1 := hid d1
        clear d1
        go_wp2_with fail
        refine hK.out _ _ trivial (fun hHeld2 => ?_)
        have hHeld := hHeld2
        clear hK K hHeld2
        try simp only [List.getElem_toArray, List.getElem_cons_zero, List.getElem_cons_succ, Act.put, List.setIfInBounds_toArray, List.set_cons_zero, List.set_cons_succ]
        refine wpAnyH_take (i := 7) (oi := _) (v := ?vzd7) rfl (by kernel_rfl) (by kernel_rfl) (by kernel_rfl) (fun _ _ _ h => h) (Or.inl ⟨by rfl, ?yzd7⟩) (by assumption) ?rzd7
        case yzd7 => (intro w hSw; (try dsimp only at hSw); go_simp; rw [if_neg (by omega)]; try with_reducible rfl)
        try simp only [List.getElem_toArray, List.getElem_cons_zero, List.getElem_cons_succ, Act.put, List.setIfInBounds_toArray, List.set_cons_zero, List.set_cons_succ]
        refine wpAnyH_ready (rs := [8]) (by kernel_rfl) (by simp) ?_
        refine AllReadyH.cons (o := _) rfl (fun K hK => ?_) AllReadyH.nil
        go_simp
        refine (p3 _ (hG.below (below_then (BC.out.alloc BC.out.size _).drew D1.out))).mono ?_
        rintro e v2 ⟨A9, k9, rfl, s9, d2⟩
        have S9 := hid s9
        have D2 := hid d2
        clear s9 d2
        go_wp2_with fail
        refine hK.out _ _ trivial (fun hHeld2 => ?_)
        have hHeld := hHeld2
        clear hK K hHeld2
        try simp only [List.getElem_toArray, List.getElem_cons_zero, List.getElem_cons_succ, Act.put, List.setIfInBounds_toArray, List.set_cons_zero, List.set_cons_succ]
        refine wpAnyH_take (i := 9) (oi := _) (v := ?vzd9) rfl (by kernel_rfl) (by kernel_rfl) (by kernel_rfl) (fun _ _ _ h => h) (Or.inl ⟨by rfl, ?yzd9⟩) (by assumption) ?rzd9
        case yzd9 => (intro w hSw; (try dsimp only at hSw); go_simp; try with_reducible rfl)
        try simp only [List.getElem_toArray, List.getElem_cons_zero, List.getElem_cons_succ, Act.put, List.setIfInBounds_toArray, List.set_cons_zero, List.set_cons_succ]
        refine wpAnyH_take (i := 10) (oi := _) (v := ?vzd10) rfl (by kernel_rfl) (by kernel_rfl) (by kernel_rfl) (fun _ _ _ h => h) (Or.inl ⟨by rfl, ?yzd10⟩) (by assumption) ?rzd10
        case yzd10 => (intro w hSw; (try dsimp only at hSw); go_simp; try with_reducible rfl)
        try simp only [List.getElem_toArray, List.getElem_cons_zero, List.getElem_cons_succ, Act.put, List.setIfInBounds_toArray, List.set_cons_zero, List.set_cons_succ]
        refine wpAnyH_take (i := 11) (oi := _) (v := ?vzd11) rfl (by kernel_rfl) (by kernel_rfl) (by kernel_rfl) (fun _ _ _ h => h) (Or.inl ⟨by rfl, ?yzd11⟩) (by assumption) ?rzd11
        case yzd11 => (intro w hSw; (try dsimp only at hSw); go_simp; try with_reducible rfl)
        try simp only [List.getElem_toArray, List.getElem_cons_zero, List.getElem_cons_succ, Act.put, List.setIfInBounds_toArray, List.set_cons_zero, List.set_cons_succ]
        have kz : CmdIs v2 wc.heap.size [] [] (.slice none 0 0) 0 := (CmdIs.new wc.drew [] [] (.slice none 0 0) 0).below (below_then D1.out D2.out)
        have z0 := kz.c0
        have z1 := kz.c1
        have z2 := kz.c2
        have z3 := kz.c3
        have f0 := kz.free 0
        have f1 := kz.free 1
        have f2 := kz.free 2
        have f3 := kz.free 3
        clear kz
        refine wpAnyH_ready (rs := [13]) (by kernel_rfl) (by simp) ?_
        refine AllReadyH.cons (o := _) rfl (fun K hK => ?_) AllReadyH.nil
        go_simp
        refine hK.out _ _ trivial (fun hHeld2 => ?_)
        have hHeld := hHeld2
        clear hK K hHeld2
        try simp only [List.getElem_toArray, List.getElem_cons_zero, List.getElem_cons_succ, Act.put, List.setIfInBounds_toArray, List.set_cons_zero, List.set_cons_succ]
        refine wpAnyH_take (i := 14) (oi := _) (v := ?vzd14) rfl (by kernel_rfl) (by kernel_rfl) (by kernel_rfl) (fun _ _ _ h => h) (Or.inl ⟨by rfl, ?yzd14⟩) (by assumption) ?rzd14
        case yzd14 => (intro w hSw; (try dsimp only at hSw); go_simp; try with_reducible rfl)
        try simp only [List.getElem_toArray, List.getElem_cons_zero, List.getElem_cons_succ, Act.put, List.setIfInBounds_toArray, List.set_cons_zero, List.set_cons_succ]
        refine wpAnyH_done (by kernel_rfl) ?_ _
        go_wp2_with fail
        go_meet
        case rel => exact ⟨_, rfl, rfl, (late (V := wc.drew) (below_then D1.out D2.out) (S9.out.mono D1.out.size)).1, (H9.out.drew.below (late (V := wc.drew) (below_then D1.out D2.out) (S9.out.mono D1.out.size)).2), HC.out.drew.below (late (V := wc.drew) (below_then D1.out D2.out) (S9.out.mono D1.out.size)).2, below_then BC.out.drew (late (V := wc.drew) (below_then D1.out D2.out) (S9.out.mono D1.out.size)).2⟩
    case rest =>
      obtain ⟨b11, rfl, rfl, h11, h9, h7, hbx⟩ := hcut
      have HC := hid h7
      have H9 := hid h9
      have H11 := hid h11
      have BC := hid hbx
      clear h11 h9 h7 hbx
      have hway : ∃ B : Int, 0 ≤ B ∧ B ≤ 9223372036854775807 ∧ ((bl < 0 ∧ -(bl + 1) = B) ∨ (0 ≤ bl ∧ bl = B)) := by
        by_cases h : bl < 0
        · exact ⟨-(bl + 1), by omega, by omega, .inl ⟨h, rfl⟩⟩
        · exact ⟨bl, by omega, by omega, .inr ⟨by omega, rfl⟩⟩
      obtain ⟨B, hB0, hB1, hway⟩ := hway
      obtain ⟨K, hK, hK8⟩ : ∃ K : Nat, Int.tmod B 9 = (K : Int) ∧ K ≤ 8 := by
        refine ⟨(Int.tmod B 9).toNat, ?_, ?_⟩
        · rw [Int.tmod_eq_emod_of_nonneg hB0]; omega
        · rw [Int.tmod_eq_emod_of_nonneg hB0]; omega
      have hi1 : -9223372036854775808 ≤ bl := hbl.1
      have hi2 : bl ≤ 9223372036854775807 := hbl.2
      rcases hway with ⟨hn, hnB⟩ | ⟨hn, rfl⟩
      all_goals
        go_wp2_with fail
        go_loop [13, 14] (fun v13 v14 => ∃ k : Nat, k ≤ K ∧ v14 = .int .i64 k ∧ v13 = .string (str (l ++ List.replicate k 32))) (fun _ v14 => K - (intOf v14).toNat)
        case atStart => exact ⟨0, Nat.zero_le _, rfl, by rw [List.replicate_zero, List.append_nil]⟩
        case round =>
          obtain ⟨k, hk, rfl, rfl⟩ := hrel
          have hzk := str_size (l ++ List.replicate k 32)
          have hzl : (l ++ List.replicate k (32 : UInt8)).length = l.length + k := by simp
          by_cases hkK : k < K
          · have htab : str (l ++ List.replicate k 32) ++ { data := #[32] } = str (l ++ List.replicate (k + 1) 32) := by
              show str _ ++ str [32] = _
              rw [str_append, List.replicate_succ', List.append_assoc]
            have hkI : (k : Int) < (K : Int) := by omega
            go_wp2_with fail
            go_round
            case rel => exact ⟨k + 1, by omega, by go_num, by first | rfl | rw [htab]⟩
            case measure => (simp [intOf]) <;> omega
          · obtain rfl : k = K := by omega
            have p5 := p4 k (by omega)
            have tok0 : Tk 0 := ⟨⟩
            clear hzl hkK p4
            go_wp2_with (first
              | (go_at_call 7; refine (p5 _ (hG.below BC.out)).mono ?_; rintro e w5 ⟨A15, k15, rfl, s15, c5⟩; have b5 := below_then BC.out c5; have B6 := hid (b5.alloc b5.size (.cells #[.string (str W), .string (str p), .slice A15 a.length k15, .int .i64 n] 25)); obtain ⟨Ad, cd, kd, sd⟩ := held_new (W := W) (p := p) (n := n) s15; obtain ⟨Aa, ca, ka, sa⟩ := (HC.out.below c5).alloc (.cells #[.string (str W), .string (str p), .slice A15 a.length k15, .int .i64 n] 25); obtain ⟨Ab, cb, kb, sb⟩ := (H9.out.below c5).alloc (.cells #[.string (str W), .string (str p), .slice A15 a.length k15, .int .i64 n] 25); obtain ⟨Ac, cc, kc, sc⟩ := (H11.out.below c5).alloc (.cells #[.string (str W), .string (str p), .slice A15 a.length k15, .int .i64 n] 25); dsimp only at kd sd ka sa kb sb kc sc; have x00 := ka.c0; have x01 := ka.c1; have x02 := ka.c2; have x03 := ka.c3; have y00 := kb.c0; have y01 := kb.c1; have y02 := kb.c2; have y03 := kb.c3; have KA := hid ka; have KC := hid kc; have KD := hid kd; have SA := hid sa; have SB := hid sb; have SC := hid sc; have SD := hid sd; clear ka kb kc kd sa sb sc sd b5 c5 s15)
              | (go_at_call 10; have t_ : Tk 0 := ‹Tk 0›; refine (same_same (W, p, a, n) Aa Ab ca cb _ SA.out SB.out hal).mono ?_; rintro e w7 ⟨rfl, c7⟩; have B7 := hid (below_then B6.out c7); have ka := KA.out.below c7; have kc := KC.out.below c7; have x10 := ka.c0; have x11 := ka.c1; have x12 := ka.c2; have x13 := ka.c3; have z10 := kc.c0; have z11 := kc.c1; have z12 := kc.c2; have z13 := kc.c3; have KA7 := hid ka; have KD7 := hid (KD.out.below c7); have SA7 := hid (SA.out.below c7); have SC7 := hid (SC.out.below c7); have SD7 := hid (SD.out.below c7); clear ka kc c7; clear t_; clear tok0; have tok1 : Tk 1 := ⟨⟩)
              | (go_at_call 10; have t_ : Tk 1 := ‹Tk 1›; refine (same_same (W, p, a, n) Aa Ac ca cc _ SA7.out SC7.out hal).mono ?_; rintro e w8 ⟨rfl, c8⟩; have B8 := hid (below_then B7.out c8); have ka := KA7.out.below c8; have kd := KD7.out.below c8; have x20 := ka.c0; have x21 := ka.c1; have x22 := ka.c2; have x23 := ka.c3; have v20 := kd.c0; have v21 := kd.c1; have v22 := kd.c2; have v23 := kd.c3; have SA8 := hid (SA7.out.below c8); have SD8 := hid (SD7.out.below c8); clear ka kd c8; clear t_; clear tok1; have tok2 : Tk 2 := ⟨⟩)
              | (go_at_call 10; have t_ : Tk 2 := ‹Tk 2›; refine (same_same (W, p, a, n) Aa Ad ca cd _ SA8.out SD8.out hal).mono ?_; rintro e w9 ⟨rfl, c9⟩; have B9 := hid (below_then B8.out c9); clear c9; clear t_; clear tok2; have tok3 : Tk 3 := ⟨⟩))
            go_ret
            exact ⟨by first | rfl | simp, B9.out⟩

end Go.Proofs.YtdbggicpcbecdaaGreatDoor
