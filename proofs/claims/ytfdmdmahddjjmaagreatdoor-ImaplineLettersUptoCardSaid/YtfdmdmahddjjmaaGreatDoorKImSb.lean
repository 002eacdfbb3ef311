/-
  The reader of APPEND.
-/
import Derived.Test.YtfdmdmahddjjmaaGreatDoorKImR
import Derived.Test.YtfdmdmahddjjmaaGreatDoorKImH
import Derived.Test.YtfdmdmahddjjmaaGreatDoorKImE
import Derived.Test.YtfdmdmahddjjmaaGreatDoorPkSt2
import Derived.Deep.CutBlock
import Derived.Deep.DeepCutAuto
namespace Go.Proofs.YtfdmdmahddjjmaaGreatDoor
open Go.RowKit Own Im
set_option linter.unusedVariables false
set_option linter.unusedSimpArgs false
set_option maxRecDepth 100000
attribute [local go_sem] str_toList str_size

def apT2 (x1 : Bt) (x : Cm) (fl : Nat) (d : Int) (s : Bt) : Option (Cm × Bt) := (literal s).map fun u => ({ x with box := x1, flags := fl, date := d, lit := u.1 }, u.2)
def apQ (s : Bt) : Option (Int × Bt) := if Lib.hasPrefix s [34] = true then (Im.quoted s).bind fun t => if (St.parseP t.1).2 = 0 then (sign [32] t.2).map fun s => ((St.parseP t.1).1, s) else none else some (-1, s)
def apT1 (x1 : Bt) (x : Cm) (fl : Nat) (s : Bt) : Option (Cm × Bt) := (apQ s).bind fun t => apT2 x1 x fl t.1 t.2
def apL (n : Nat) (s : Bt) : Option (Nat × Bt) := if Lib.hasPrefix s [40] = true then (Im.list s).bind fun r => (sign [32] r.2).map fun s => (r.1, s) else some (n, s)
theorem append_at {x : Cm} {s s1 s2 x1 : Bt} (h1 : then_ s = some (x1, s1)) (h2 : sign [32] s1 = some s2) : appendF x s = (apL x.flags s2).bind fun r => apT1 x1 x r.1 r.2 := by
  unfold appendF apT1 apQ apL apT2
  rw [h1, Option.bind_some]
  dsimp only
  rw [h2, Option.bind_some]
theorem GoodI.stamp {b : Nat} {w : World} (h : GoodI b w) : (∃ m, w.cell? ⟨0, 0, none⟩ = some (.int .i64 m)) ∧ St.Lens w ∧ 3 < w.heap.size := by
  obtain ⟨w0, g, h1, h2⟩ := h
  exact ⟨(g.c.below h2).max, g.lens.below h2 g.lt, Nat.lt_of_lt_of_le g.lt h2.size⟩
theorem stamp_any {b : Nat} {t x : Bt} {w : World} (h : RdI w b t) (n e : Int) (hp : St.parseP x = (n, e)) :
    Calls Tryz.prog 96 #[.string (str x)] w fun r w' => r = .returned (.tuple #[.int .i64 n, .int .i64 e]) ∧ Below w.heap.size w w' := by
  obtain ⟨⟨m, hm⟩, hl, hlt⟩ := h.good.stamp
  have := St.parse_any x m w hm hl hlt
  rw [hp] at this
  exact this

set_option maxHeartbeats 4000000 in
theorem append_any : FormC 59 (readF 6) := by
  intro b c B s x v w h hc hv hbc hcB hB hx7 hx6
  have hbB : b < B := by omega
  have hcb : c ≠ b := by omega
  have H := hid h
  have K0 := hid hc
  have S0 := hid hv
  have T0 := hid (Two.refl b c w)
  clear h hc hv
  obtain ⟨R, hR⟩ : ∃ R, R = (readF 6) x s := ⟨_, rfl⟩
  rw [← hR]
  have HR := hid hR
  clear hR
  have u12 := K0.out.c12
  have f12 := K0.out.free 12
  have kc := fun (W : World) (s : ByteArray) => Lib.run_convert_string_bytes (P := Tryz.prog) W 9 28 5 s Tryz.underlying9 Tryz.underlying28 Tryz.underlying5
  have K1 := hid (K0.out.set12 (-1))
  have e1 := S0.out.stays ((setStays w c 12 (.int .i64 (-1))).mono hcB)
  have S1 : Hid (CmRows B (w.setCell ⟨c, 12, none⟩ (.int .i64 (-1))) { x with date := -1 } v) := hid ⟨e1.set, e1.names, e1.items, e1.keys, e1.lit⟩
  have T1 := hid (T0.out.trans (Two.set w hbc 12 (.int .i64 (-1))))
  have R1 := hid (H.out.far hbc (j := 12) (.int .i64 (-1)))
  clear e1
  have tok0 : Tk 0 := ⟨⟩
  go_enter Tryz.func59, Tryz.ntmps59
  go_upto_region 3 with (first
    | (go_at_call 51; have t_ : Tk 0 := ‹Tk 0›; refine (then_any b s _ R1.out).mono ?_; intro e w2 h2; rcases h2.cases with ⟨q2, rfl, o2⟩ | ⟨x2, s2, y2, q2, rfl, rfl, r2, o2⟩ <;> (first | (have k2 := K1.out.only o2 hcb; have u2 := k2.c4; have f2 := k2.free 4; have K2 := hid (k2.set4 x2); have e2 := (show CmRows B (w2.setCell ⟨c, 4, none⟩ (.string (str x2))) _ _ from (S1.out.stays (o2.stays hbB)).stays ((setStays _ _ _ _).mono hcB)); have S2 := hid (CmRows.as K2.out e2.set e2.names e2.items e2.keys e2.lit); clear e2; have T2 : Hid (Two b c w (w2.setCell ⟨c, 4, none⟩ (.string (str x2)))) := hid ((T1.out.trans o2.two).trans (Two.set _ hbc _ _)); have R2 : Hid (RdI (w2.setCell ⟨c, 4, none⟩ (.string (str x2))) b s2) := hid (r2.far hbc _);  have Q2 := hid q2;  clear r2 q2 o2 h2) | (have Q2 := hid q2; have T2 := hid (T1.out.trans o2.two); clear q2 o2 h2)) <;> (clear t_ tok0; have tok1 : Tk 1 := ⟨⟩))
    | (go_at_call 53; have t_ : Tk 1 := ‹Tk 1›; refine (sign_any b s2 [32] _ R2.out).mono ?_; intro e w3 h3; rcases sign_cases h3 with ⟨q3, rfl, o3⟩ | ⟨s3, q3, rfl, r3, o3⟩ <;> (first | (have K3 : Hid (CmAt w3 c _ _) := hid (K2.out.only o3 hcb); have S3 := hid (S2.out.stays (o3.stays hbB)); have T3 := hid (T2.out.trans o3.two); have R3 := hid r3; have Q3 := hid q3; clear r3 q3 o3 h3) | (have Q3 := hid q3; have T3 := hid (T2.out.trans o3.two); clear q3 o3 h3)) <;> (clear t_ tok1; have tok2 : Tk 2 := ⟨⟩)))
  all_goals first
    | (refine ⟨rfl, FormPost.panic ?_ T3.out⟩; rw [HR.out]; simp [readF, appendF, Q2.out, Q3.out]; done)
    | (refine ⟨rfl, FormPost.panic ?_ T2.out⟩; rw [HR.out]; simp [readF, appendF, Q2.out]; done)
    | skip
  have hR3 := HR.out.trans (append_at (x := x) Q2.out Q3.out)
  clear HR
  obtain ⟨pk, hp4⟩ : ∃ pk, Lib.hasPrefix s3 [40] = pk := ⟨_, rfl⟩
  have u7 := K3.out.c7
  have f7 := K3.out.free 7
  go_upto_if 17 with (go_at_call 91; have t_ : Tk 2 := ‹Tk 2›; refine (sees_any b s3 [40] _ R3.out).mono ?_; rintro e w4 ⟨h4, he⟩; obtain rfl := he.symm; rw [hp4] at h4; obtain rfl := h4 <;> (clear t_ tok2; have tok3 : Tk 3 := ⟨⟩))
  go_cut [] from 18 to 24 (fun wx => ∃ (fl : Nat) (t : Bt), R = apT1 x2 x fl t ∧ CmAt wx c { x with date := -1, box := x2, flags := fl } v ∧ CmRows B wx { x with date := -1, box := x2, flags := fl } v ∧ RdI wx b t ∧ Two b c w wx)
  case first =>
    unfold apL at hR3
    rw [hp4] at hR3
    cases pk with
    | false =>
      have HR4 : Hid (R = apT1 x2 x x.flags s3) := hid hR3
      clear hR3
      go_wp2_with fail
      go_meet
      exact ⟨x.flags, s3, HR4.out, K3.out, (have e := S3.out; ⟨e.set, e.names, e.items, e.keys, e.lit⟩), R3.out, T3.out⟩
    | true =>
      have HR4 : Hid (R = ((Im.list s3).bind fun r => (sign [32] r.2).map fun s => (r.1, s)).bind fun r => apT1 x2 x r.1 r.2) := hid hR3
      clear hR3
      have e3 := S3.out
      go_wp2_with (first
        | (go_at_call 95; have t_ : Tk 3 := ‹Tk 3›; refine (list_any b s3 _ R3.out).mono ?_; intro e w5 h5; rcases h5.cases with ⟨q5, rfl, o5⟩ | ⟨x5, s5, y5, q5, rfl, rfl, r5, o5⟩ <;> (first | (have k5 := K3.out.only o5 hcb; have u5 := k5.c7; have f5 := k5.free 7; have K5 := hid (k5.set7 x5); have e5 := (show CmRows B (w5.setCell ⟨c, 7, none⟩ (.int .i64 x5)) _ _ from (S3.out.stays (o5.stays hbB)).stays ((setStays _ _ _ _).mono hcB)); have S5 := hid (CmRows.as K5.out e5.set e5.names e5.items e5.keys e5.lit); clear e5; have T5 : Hid (Two b c w (w5.setCell ⟨c, 7, none⟩ (.int .i64 x5))) := hid ((T3.out.trans o5.two).trans (Two.set _ hbc _ _)); have R5 : Hid (RdI (w5.setCell ⟨c, 7, none⟩ (.int .i64 x5)) b s5) := hid (r5.far hbc _);  have Q5 := hid q5;  clear r5 q5 o5 h5) | (have Q5 := hid q5; have T5 := hid (T3.out.trans o5.two); clear q5 o5 h5)) <;> (clear t_ tok3; have tok4 : Tk 4 := ⟨⟩))
        | (go_at_call 53; have t_ : Tk 4 := ‹Tk 4›; refine (sign_any b s5 [32] _ R5.out).mono ?_; intro e w6 h6; rcases sign_cases h6 with ⟨q6, rfl, o6⟩ | ⟨s6, q6, rfl, r6, o6⟩ <;> (first | (have K6 : Hid (CmAt w6 c _ _) := hid (K5.out.only o6 hcb); have S6 := hid (S5.out.stays (o6.stays hbB)); have T6 := hid (T5.out.trans o6.two); have R6 := hid r6; have Q6 := hid q6; clear r6 q6 o6 h6) | (have Q6 := hid q6; have T6 := hid (T5.out.trans o6.two); clear q6 o6 h6)) <;> (clear t_ tok4; have tok5 : Tk 5 := ⟨⟩)))
      all_goals first
        | (refine ⟨rfl, FormPost.panic ?_ T6.out⟩; rw [HR4.out]; simp [Q5.out, Q6.out]; done)
        | (refine ⟨rfl, FormPost.panic ?_ T5.out⟩; rw [HR4.out]; simp [Q5.out]; done)
        | skip
      go_meet
      exact ⟨x5, s6, (by rw [HR4.out]; simp [Q5.out, Q6.out]), K6.out, (have e := S6.out; ⟨e.set, e.names, e.items, e.keys, e.lit⟩), R6.out, T6.out⟩
  case rest =>
    obtain ⟨fl, t, hR7, hc7, hv7, hr7, ht7⟩ := hcut
    have K7 := hid hc7
    have S7 := hid hv7
    have R7 := hid hr7
    have T7 := hid ht7
    have u12 := hc7.c12
    have f12 := hc7.free 12
    clear hc7 hv7 hr7 ht7 hR3
    obtain ⟨qk, hp8⟩ : ∃ qk, Lib.hasPrefix t [34] = qk := ⟨_, rfl⟩
    have tok3 : Tk 3 := ⟨⟩
    go_upto_if 26 with (go_at_call 91; have t_ : Tk 3 := ‹Tk 3›; refine (sees_any b t [34] _ R7.out).mono ?_; rintro e w8 ⟨h8, he⟩; obtain rfl := he.symm; rw [hp8] at h8; obtain rfl := h8 <;> (clear t_ tok3; have tok4 : Tk 4 := ⟨⟩))
    go_cut [] from 4 to 41 (fun wx => ∃ (d : Int) (t2 : Bt), R = apT2 x2 x fl d t2 ∧ CmAt wx c { x with date := d, box := x2, flags := fl } v ∧ CmRows B wx { x with date := d, box := x2, flags := fl } v ∧ RdI wx b t2 ∧ Two b c w wx)
    case first =>
      unfold apT1 apQ at hR7
      rw [hp8] at hR7
      cases qk with
      | false =>
        have HR8 : Hid (R = apT2 x2 x fl (-1) t) := hid hR7
        clear hR7
        go_wp2_with fail
        go_meet
        exact ⟨-1, t, HR8.out, K7.out, S7.out, R7.out, T7.out⟩
      | true =>
        have HR8 : Hid (R = ((Im.quoted t).bind fun t => if (St.parseP t.1).2 = 0 then (sign [32] t.2).map fun s => ((St.parseP t.1).1, s) else none).bind fun t => apT2 x2 x fl t.1 t.2) := hid hR7
        clear hR7
        go_wp2_with (first
          | (go_at_call 92; have t_ : Tk 4 := ‹Tk 4›; refine (quoted_any b t _ R7.out).mono ?_; intro e w9 h9; rcases h9.cases with ⟨q9, rfl, o9⟩ | ⟨x9, s9, y9, q9, rfl, rfl, r9, o9⟩ <;> (first | (have K9 : Hid (CmAt w9 c _ _) := hid (K7.out.only o9 hcb); have S9 := hid (S7.out.stays (o9.stays hbB)); have T9 := hid (T7.out.trans o9.two); have R9 := hid r9;  have Q9 := hid q9;  clear r9 q9 o9 h9) | (have Q9 := hid q9; have T9 := hid (T7.out.trans o9.two); clear q9 o9 h9)) <;> (clear t_ tok4; have tok5 : Tk 5 := ⟨⟩))
          | (go_at_call 96; have t_ : Tk 5 := ‹Tk 5›; obtain ⟨pn, pe, p10⟩ : ∃ pn pe, St.parseP x9 = (pn, pe) := ⟨_, _, rfl⟩; refine (stamp_any R9.out pn pe p10).mono ?_; rintro e w10 ⟨rfl, b10⟩; have P10 := hid p10; have k10 := K9.out.below b10; have u12 := k10.c12; have f12 := k10.free 12; have K10 := hid k10; have S10 := hid (S9.out.stays (Below.stays b10)); have R10 := hid (R9.out.below b10); have T10 := hid (T9.out.trans (Two.of b10 (Nat.le_of_lt R9.out.lt))); clear p10 b10 k10 <;> (clear t_ tok5; have tok6 : Tk 6 := ⟨⟩))
          | (go_at_call 28; have t_ : Tk 6 := ‹Tk 6›; refine (must_any _ _).mono ?_; rintro e w11 ⟨h11, he⟩; obtain rfl := he.symm; rcases must_split h11 with ⟨m11, rfl⟩ | ⟨m11, rfl⟩ <;> (first | (have M11 : Hid (pe = 0) := hid (by simpa using m11); clear m11 h11; have K11 := hid (K10.out.set12 pn); have S11 : Hid (CmRows B (w10.setCell ⟨c, 12, none⟩ (.int .i64 pn)) { x with date := pn, box := x2, flags := fl } v) := hid (have e := S10.out.stays ((setStays w10 c 12 (.int .i64 pn)).mono hcB); ⟨e.set, e.names, e.items, e.keys, e.lit⟩); have R11 := hid (R10.out.far hbc (j := 12) (.int .i64 pn)); have T11 := hid (T10.out.trans (Two.set w10 hbc 12 (.int .i64 pn)))) | (have M11 : Hid (¬ pe = 0) := hid (by simpa using m11); clear m11 h11)) <;> (clear t_ tok6; have tok7 : Tk 7 := ⟨⟩))
          | (go_at_call 53; have t_ : Tk 7 := ‹Tk 7›; refine (sign_any b s9 [32] _ R11.out).mono ?_; intro e w12 h12; rcases sign_cases h12 with ⟨q12, rfl, o12⟩ | ⟨s12, q12, rfl, r12, o12⟩ <;> (first | (have K12 : Hid (CmAt w12 c _ _) := hid (K11.out.only o12 hcb); have S12 := hid (S11.out.stays (o12.stays hbB)); have T12 := hid (T11.out.trans o12.two); have R12 := hid r12; have Q12 := hid q12; clear r12 q12 o12 h12) | (have Q12 := hid q12; have T12 := hid (T11.out.trans o12.two); clear q12 o12 h12)) <;> (clear t_ tok7; have tok8 : Tk 8 := ⟨⟩)))
        all_goals first
          | (refine ⟨rfl, FormPost.panic ?_ T9.out⟩; rw [HR8.out]; simp [Q9.out]; done)
          | (refine ⟨rfl, FormPost.panic ?_ T10.out⟩; have m11 := M11.out; rw [HR8.out]; simp [Q9.out, P10.out, m11]; done)
          | (refine ⟨rfl, FormPost.panic ?_ T12.out⟩; have m11 := M11.out; rw [HR8.out]; simp [Q9.out, P10.out, m11, Q12.out]; done)
          | skip
        go_meet
        exact ⟨pn, s12, (by have m11 := M11.out; rw [HR8.out]; simp [Q9.out, P10.out, m11, Q12.out]), K12.out, (have e := S12.out; ⟨e.set, e.names, e.items, e.keys, e.lit⟩), R12.out, T12.out⟩
    case rest =>
      obtain ⟨d, t2, hR13, hc13, hv13, hr13, ht13⟩ := hcut
      have K13 := hid hc13
      have S13 := hid hv13
      have R13 := hid hr13
      have T13 := hid ht13
      have HR13 := hid hR13
      clear hc13 hv13 hr13 ht13 hR13 hR7
      go_wp2_with (go_at_call 93; refine (literal_any b t2 _ R13.out).mono ?_; intro e w14 h14; rcases h14.cases with ⟨q14, rfl, o14⟩ | ⟨x14, s14, y14, q14, rfl, rfl, r14, o14⟩ <;> (first | (have k14 := K13.out.only o14 hcb; have g14 := k14.below (Lib.bytesWorld_below w14 5 (str x14)); have u13 := g14.c13; have f13 := g14.free 13; have z14 := str_size x14; have S14 := hid (S13.out.stays (o14.stays hbB)); have T14 := hid (T13.out.trans o14.two); have K14 := hid k14; have R14 := hid r14; have Q14 := hid q14; clear r14 o14 q14 h14 k14 g14) | (have T14 := hid (T13.out.trans o14.two); have Q14 := hid q14; clear o14 q14 h14)))
      · refine ⟨rfl, FormPost.panic ?_ T14.out⟩
        rw [HR13.out]
        simp [apT2, Q14.out]
      · go_end0
        have hb := Lib.bytesWorld_below w14 5 (str x14)
        have hn := (LBuf.bytes w14 x14 x14.length _ rfl (grownCap_ge w14 x14.length 0 5)).mono (show B ≤ w14.heap.size by have := T14.out.size; omega)
        have e := (S14.out.stays (Below.stays hb)).stays ((setStays _ c 13 (.slice (some ⟨w14.heap.size, 0, none⟩) x14.length (grownCap w14 x14.length 0 5))).mono hcB)
        exact FormPost.give (by rw [HR13.out]; simp [apT2, Q14.out]) ((T14.out.trans (Two.of hb (Nat.le_of_lt R14.out.lt))).trans (Two.set _ hbc _ _)) ((R14.out.below hb).far hbc _) ((K14.out.below hb).set13 _ x14) ⟨e.set, e.names, e.items, e.keys, hn.stays ((setStays _ _ _ _).mono hcB)⟩
end Go.Proofs.YtfdmdmahddjjmaaGreatDoor
