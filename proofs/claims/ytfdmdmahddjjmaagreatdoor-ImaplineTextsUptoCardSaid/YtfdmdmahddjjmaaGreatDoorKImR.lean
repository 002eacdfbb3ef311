/-
  The commands' readers: nothing, a box, LIST, LOGIN, RENAME, COPY, FETCH.
-/
import Derived.Test.YtfdmdmahddjjmaaGreatDoorKImQ
namespace Go.Proofs.YtfdmdmahddjjmaaGreatDoor
open Go.RowKit Own Im
set_option linter.unusedVariables false
set_option linter.unusedSimpArgs false
set_option maxRecDepth 100000
attribute [local go_sem] str_toList str_size

theorem nothing_any : FormC 49 (readF 0) := by
  intro b c B s x v w h hc hv hbc hcB hB _ _
  go_enter Tryz.func49, Tryz.ntmps49
  go_wp2
  go_end0
  exact FormPost.give rfl (Two.refl _ _ _) h hc hv

set_option maxHeartbeats 4000000 in
theorem box_any : FormC 50 (readF 1) := by
  intro b c B s x v w h hc hv hbc hcB hB hx7 hx6
  have hbB : b < B := by omega
  have hcb : c ≠ b := by omega
  have H := hid h
  have K0 := hid hc
  have S0 := hid hv
  have T0 := hid (Two.refl b c w)
  clear h hc hv
  obtain ⟨R, hR⟩ : ∃ R, R = (readF 1) x s := ⟨_, rfl⟩
  rw [← hR]
  have HR := hid hR
  clear hR
  have tok0 : Tk 0 := ⟨⟩
  go_enter Tryz.func50, Tryz.ntmps50
  go_wp2_with (first
    | (go_at_call 51; have t_ : Tk 0 := ‹Tk 0›; refine (then_any b s _ H.out).mono ?_; intro e w1 h1; rcases h1.cases with ⟨q1, rfl, o1⟩ | ⟨x1, s1, y1, q1, rfl, rfl, r1, o1⟩ <;> (first | (have k1 := K0.out.only o1 hcb; have u1 := k1.c4; have f1 := k1.free 4; have K1 := hid (k1.set4 x1); have e1 := (show CmRows B (w1.setCell ⟨c, 4, none⟩ (.string (str x1))) _ _ from (S0.out.stays (o1.stays hbB)).stays ((setStays _ _ _ _).mono hcB)); have S1 := hid (CmRows.as K1.out e1.set e1.names e1.items e1.keys e1.lit); clear e1; have T1 : Hid (Two b c w (w1.setCell ⟨c, 4, none⟩ (.string (str x1)))) := hid ((T0.out.trans o1.two).trans (Two.set _ hbc _ _)); have R1 : Hid (RdI (w1.setCell ⟨c, 4, none⟩ (.string (str x1))) b s1) := hid (r1.far hbc _);  have Q1 := hid q1;  clear r1 q1 o1 h1) | (have Q1 := hid q1; have T1 := hid (T0.out.trans o1.two); clear q1 o1 h1)) <;> (clear t_ tok0; have tok1 : Tk 1 := ⟨⟩)))
  all_goals first
    | (refine ⟨rfl, FormPost.panic ?_ T1.out⟩; rw [HR.out]; simp [readF, oneF, Q1.out]; done)
    | skip
  go_end0
  exact FormPost.give (by rw [HR.out]; simp [readF, oneF, Q1.out]; try rfl) T1.out R1.out K1.out S1.out

set_option maxHeartbeats 4000000 in
theorem listed_any : FormC 52 (readF 2) := by
  intro b c B s x v w h hc hv hbc hcB hB hx7 hx6
  have hbB : b < B := by omega
  have hcb : c ≠ b := by omega
  have H := hid h
  have K0 := hid hc
  have S0 := hid hv
  have T0 := hid (Two.refl b c w)
  clear h hc hv
  have htx := fun s1 W hW => text_any 55 patB (enters_of Tryz.func55 (by kernel_rfl) rfl) pattern_any b s1 W hW
  obtain ⟨R, hR⟩ : ∃ R, R = (readF 2) x s := ⟨_, rfl⟩
  rw [← hR]
  have HR := hid hR
  clear hR
  have tok0 : Tk 0 := ⟨⟩
  go_enter Tryz.func52, Tryz.ntmps52
  go_wp2_with (first
    | (go_at_call 51; have t_ : Tk 0 := ‹Tk 0›; refine (then_any b s _ H.out).mono ?_; intro e w1 h1; rcases h1.cases with ⟨q1, rfl, o1⟩ | ⟨x1, s1, y1, q1, rfl, rfl, r1, o1⟩ <;> (first | (have k1 := K0.out.only o1 hcb; have u1 := k1.c4; have f1 := k1.free 4; have K1 := hid (k1.set4 x1); have e1 := (show CmRows B (w1.setCell ⟨c, 4, none⟩ (.string (str x1))) _ _ from (S0.out.stays (o1.stays hbB)).stays ((setStays _ _ _ _).mono hcB)); have S1 := hid (CmRows.as K1.out e1.set e1.names e1.items e1.keys e1.lit); clear e1; have T1 : Hid (Two b c w (w1.setCell ⟨c, 4, none⟩ (.string (str x1)))) := hid ((T0.out.trans o1.two).trans (Two.set _ hbc _ _)); have R1 : Hid (RdI (w1.setCell ⟨c, 4, none⟩ (.string (str x1))) b s1) := hid (r1.far hbc _);  have Q1 := hid q1;  clear r1 q1 o1 h1) | (have Q1 := hid q1; have T1 := hid (T0.out.trans o1.two); clear q1 o1 h1)) <;> (clear t_ tok0; have tok1 : Tk 1 := ⟨⟩))
    | (go_at_call 53; have t_ : Tk 1 := ‹Tk 1›; refine (sign_any b s1 [32] _ R1.out).mono ?_; intro e w2 h2; rcases sign_cases h2 with ⟨q2, rfl, o2⟩ | ⟨s2, q2, rfl, r2, o2⟩ <;> (first | (have K2 : Hid (CmAt w2 c _ _) := hid (K1.out.only o2 hcb); have S2 := hid (S1.out.stays (o2.stays hbB)); have T2 := hid (T1.out.trans o2.two); have R2 := hid r2; have Q2 := hid q2; clear r2 q2 o2 h2) | (have Q2 := hid q2; have T2 := hid (T1.out.trans o2.two); clear q2 o2 h2)) <;> (clear t_ tok1; have tok2 : Tk 2 := ⟨⟩))
    | (go_at_call 54; have t_ : Tk 2 := ‹Tk 2›; refine (htx s2 _ R2.out).mono ?_; intro e w3 h3; rcases h3.cases with ⟨q3, rfl, o3⟩ | ⟨x3, s3, y3, q3, rfl, rfl, r3, o3⟩ <;> (first | (have k3 := K2.out.only o3 hcb; have u3 := k3.c5; have f3 := k3.free 5; have K3 := hid (k3.set5 x3); have e3 := (show CmRows B (w3.setCell ⟨c, 5, none⟩ (.string (str x3))) _ _ from (S2.out.stays (o3.stays hbB)).stays ((setStays _ _ _ _).mono hcB)); have S3 := hid (CmRows.as K3.out e3.set e3.names e3.items e3.keys e3.lit); clear e3; have T3 : Hid (Two b c w (w3.setCell ⟨c, 5, none⟩ (.string (str x3)))) := hid ((T2.out.trans o3.two).trans (Two.set _ hbc _ _)); have R3 : Hid (RdI (w3.setCell ⟨c, 5, none⟩ (.string (str x3))) b s3) := hid (r3.far hbc _);  have Q3 := hid q3;  clear r3 q3 o3 h3) | (have Q3 := hid q3; have T3 := hid (T2.out.trans o3.two); clear q3 o3 h3)) <;> (clear t_ tok2; have tok3 : Tk 3 := ⟨⟩)))
  all_goals first
    | (refine ⟨rfl, FormPost.panic ?_ T3.out⟩; rw [HR.out]; simp [readF, listF, Q1.out, Q2.out, Q3.out]; done)
    | (refine ⟨rfl, FormPost.panic ?_ T2.out⟩; rw [HR.out]; simp [readF, listF, Q1.out, Q2.out]; done)
    | (refine ⟨rfl, FormPost.panic ?_ T1.out⟩; rw [HR.out]; simp [readF, listF, Q1.out]; done)
    | skip
  go_end0
  exact FormPost.give (by rw [HR.out]; simp [readF, listF, Q1.out, Q2.out, Q3.out]; try rfl) T3.out R3.out K3.out S3.out

set_option maxHeartbeats 4000000 in
theorem rename_any : FormC 57 (readF 4) := by
  intro b c B s x v w h hc hv hbc hcB hB hx7 hx6
  have hbB : b < B := by omega
  have hcb : c ≠ b := by omega
  have H := hid h
  have K0 := hid hc
  have S0 := hid hv
  have T0 := hid (Two.refl b c w)
  clear h hc hv
  obtain ⟨R, hR⟩ : ∃ R, R = (readF 4) x s := ⟨_, rfl⟩
  rw [← hR]
  have HR := hid hR
  clear hR
  have tok0 : Tk 0 := ⟨⟩
  go_enter Tryz.func57, Tryz.ntmps57
  go_wp2_with (first
    | (go_at_call 51; have t_ : Tk 0 := ‹Tk 0›; refine (then_any b s _ H.out).mono ?_; intro e w1 h1; rcases h1.cases with ⟨q1, rfl, o1⟩ | ⟨x1, s1, y1, q1, rfl, rfl, r1, o1⟩ <;> (first | (have K1 : Hid (CmAt w1 c _ _) := hid (K0.out.only o1 hcb); have S1 := hid (S0.out.stays (o1.stays hbB)); have T1 := hid (T0.out.trans o1.two); have R1 := hid r1;  have Q1 := hid q1;  clear r1 q1 o1 h1) | (have Q1 := hid q1; have T1 := hid (T0.out.trans o1.two); clear q1 o1 h1)) <;> (clear t_ tok0; have tok1 : Tk 1 := ⟨⟩))
    | (go_at_call 51; have t_ : Tk 1 := ‹Tk 1›; refine (then_any b s1 _ R1.out).mono ?_; intro e w2 h2; rcases h2.cases with ⟨q2, rfl, o2⟩ | ⟨x2, s2, y2, q2, rfl, rfl, r2, o2⟩ <;> (first | (have K2 : Hid (CmAt w2 c _ _) := hid (K1.out.only o2 hcb); have S2 := hid (S1.out.stays (o2.stays hbB)); have T2 := hid (T1.out.trans o2.two); have R2 := hid r2;  have Q2 := hid q2; have k2 := K1.out.only o2 hcb; have u4 := k2.c4; have u5 := k2.c5; have f4 := k2.free 4; have f5 := k2.free 5; clear r2 q2 o2 h2) | (have Q2 := hid q2; have T2 := hid (T1.out.trans o2.two); clear q2 o2 h2)) <;> (clear t_ tok1; have tok2 : Tk 2 := ⟨⟩)))
  all_goals first
    | (refine ⟨rfl, FormPost.panic ?_ T2.out⟩; rw [HR.out]; simp [readF, renameF, Q1.out, Q2.out]; done)
    | (refine ⟨rfl, FormPost.panic ?_ T1.out⟩; rw [HR.out]; simp [readF, renameF, Q1.out]; done)
    | skip
  go_end0
  exact FormPost.give (by rw [HR.out]; simp [readF, renameF, Q1.out, Q2.out]) ((T2.out.trans (Two.set _ hbc _ _)).trans (Two.set _ hbc _ _)) ((R2.out.far hbc _).far hbc _) ((K2.out.set4 x1).set5 x2) (have e := (S2.out.stays ((setStays w2 c 4 (.string (str x1))).mono hcB)).stays ((setStays _ c 5 (.string (str x2))).mono hcB); ⟨e.set, e.names, e.items, e.keys, e.lit⟩)

set_option maxHeartbeats 4000000 in
theorem copy_any : FormC 61 (readF 8) := by
  intro b c B s x v w h hc hv hbc hcB hB hx7 hx6
  have hbB : b < B := by omega
  have hcb : c ≠ b := by omega
  have H := hid h
  have K0 := hid hc
  have S0 := hid hv
  have T0 := hid (Two.refl b c w)
  clear h hc hv
  obtain ⟨R, hR⟩ : ∃ R, R = (readF 8) x s := ⟨_, rfl⟩
  rw [← hR]
  have HR := hid hR
  clear hR
  have tok0 : Tk 0 := ⟨⟩
  go_enter Tryz.func61, Tryz.ntmps61
  go_wp2_with (first
    | (go_at_call 53; have t_ : Tk 0 := ‹Tk 0›; refine (sign_any b s [32] _ H.out).mono ?_; intro e w1 h1; rcases sign_cases h1 with ⟨q1, rfl, o1⟩ | ⟨s1, q1, rfl, r1, o1⟩ <;> (first | (have K1 : Hid (CmAt w1 c _ _) := hid (K0.out.only o1 hcb); have S1 := hid (S0.out.stays (o1.stays hbB)); have T1 := hid (T0.out.trans o1.two); have R1 := hid r1; have Q1 := hid q1; clear r1 q1 o1 h1) | (have Q1 := hid q1; have T1 := hid (T0.out.trans o1.two); clear q1 o1 h1)) <;> (clear t_ tok0; have tok1 : Tk 1 := ⟨⟩))
    | (go_at_call 62; have t_ : Tk 1 := ‹Tk 1›; refine (set_any b s1 _ R1.out).mono ?_; intro e w2 h2; rcases h2.cases with ⟨q2, rfl, o2⟩ | ⟨x2, s2, y2, q2, rfl, v2, r2, o2⟩ <;> (first | (obtain ⟨A2, c2, rfl, -, -⟩ := v2.full; have k2 := K1.out.only o2 hcb; have u2 := k2.c3; have f2 := k2.free 3; have K2 := hid (k2.set3 (.slice A2 x2.length c2) x2); have e2 := (show CmRows B (w2.setCell ⟨c, 3, none⟩ (.slice A2 x2.length c2)) _ _ from (S1.out.stays (o2.stays hbB)).stays ((setStays _ _ _ _).mono hcB)); have S2 := hid (CmRows.as K2.out ((v2.mono (Nat.le_trans hB T1.out.size)).stays ((setStays _ _ _ _).mono hcB)) e2.names e2.items e2.keys e2.lit); clear e2; have T2 : Hid (Two b c w (w2.setCell ⟨c, 3, none⟩ (.slice A2 x2.length c2))) := hid ((T1.out.trans o2.two).trans (Two.set _ hbc _ _)); have R2 : Hid (RdI (w2.setCell ⟨c, 3, none⟩ (.slice A2 x2.length c2)) b s2) := hid (r2.far hbc _);  have Q2 := hid q2;  clear r2 q2 o2 h2) | (have Q2 := hid q2; have T2 := hid (T1.out.trans o2.two); clear q2 o2 h2)) <;> (clear t_ tok1; have tok2 : Tk 2 := ⟨⟩))
    | (go_at_call 51; have t_ : Tk 2 := ‹Tk 2›; refine (then_any b s2 _ R2.out).mono ?_; intro e w3 h3; rcases h3.cases with ⟨q3, rfl, o3⟩ | ⟨x3, s3, y3, q3, rfl, rfl, r3, o3⟩ <;> (first | (have k3 := K2.out.only o3 hcb; have u3 := k3.c4; have f3 := k3.free 4; have K3 := hid (k3.set4 x3); have e3 := (show CmRows B (w3.setCell ⟨c, 4, none⟩ (.string (str x3))) _ _ from (S2.out.stays (o3.stays hbB)).stays ((setStays _ _ _ _).mono hcB)); have S3 := hid (CmRows.as K3.out e3.set e3.names e3.items e3.keys e3.lit); clear e3; have T3 : Hid (Two b c w (w3.setCell ⟨c, 4, none⟩ (.string (str x3)))) := hid ((T2.out.trans o3.two).trans (Two.set _ hbc _ _)); have R3 : Hid (RdI (w3.setCell ⟨c, 4, none⟩ (.string (str x3))) b s3) := hid (r3.far hbc _);  have Q3 := hid q3;  clear r3 q3 o3 h3) | (have Q3 := hid q3; have T3 := hid (T2.out.trans o3.two); clear q3 o3 h3)) <;> (clear t_ tok2; have tok3 : Tk 3 := ⟨⟩)))
  all_goals first
    | (refine ⟨rfl, FormPost.panic ?_ T3.out⟩; rw [HR.out]; simp [readF, copyF, Q1.out, Q2.out, Q3.out]; done)
    | (refine ⟨rfl, FormPost.panic ?_ T2.out⟩; rw [HR.out]; simp [readF, copyF, Q1.out, Q2.out]; done)
    | (refine ⟨rfl, FormPost.panic ?_ T1.out⟩; rw [HR.out]; simp [readF, copyF, Q1.out]; done)
    | skip
  go_end0
  exact FormPost.give (by rw [HR.out]; simp [readF, copyF, Q1.out, Q2.out, Q3.out]; try rfl) T3.out R3.out K3.out S3.out

set_option maxHeartbeats 4000000 in
theorem fetch_any : FormC 63 (readF 9) := by
  intro b c B s x v w h hc hv hbc hcB hB hx7 hx6
  have hbB : b < B := by omega
  have hcb : c ≠ b := by omega
  have H := hid h
  have K0 := hid hc
  have S0 := hid hv
  have T0 := hid (Two.refl b c w)
  clear h hc hv
  obtain ⟨R, hR⟩ : ∃ R, R = (readF 9) x s := ⟨_, rfl⟩
  rw [← hR]
  have HR := hid hR
  clear hR
  have tok0 : Tk 0 := ⟨⟩
  go_enter Tryz.func63, Tryz.ntmps63
  go_wp2_with (first
    | (go_at_call 53; have t_ : Tk 0 := ‹Tk 0›; refine (sign_any b s [32] _ H.out).mono ?_; intro e w1 h1; rcases sign_cases h1 with ⟨q1, rfl, o1⟩ | ⟨s1, q1, rfl, r1, o1⟩ <;> (first | (have K1 : Hid (CmAt w1 c _ _) := hid (K0.out.only o1 hcb); have S1 := hid (S0.out.stays (o1.stays hbB)); have T1 := hid (T0.out.trans o1.two); have R1 := hid r1; have Q1 := hid q1; clear r1 q1 o1 h1) | (have Q1 := hid q1; have T1 := hid (T0.out.trans o1.two); clear q1 o1 h1)) <;> (clear t_ tok0; have tok1 : Tk 1 := ⟨⟩))
    | (go_at_call 62; have t_ : Tk 1 := ‹Tk 1›; refine (set_any b s1 _ R1.out).mono ?_; intro e w2 h2; rcases h2.cases with ⟨q2, rfl, o2⟩ | ⟨x2, s2, y2, q2, rfl, v2, r2, o2⟩ <;> (first | (obtain ⟨A2, c2, rfl, -, -⟩ := v2.full; have k2 := K1.out.only o2 hcb; have u2 := k2.c3; have f2 := k2.free 3; have K2 := hid (k2.set3 (.slice A2 x2.length c2) x2); have e2 := (show CmRows B (w2.setCell ⟨c, 3, none⟩ (.slice A2 x2.length c2)) _ _ from (S1.out.stays (o2.stays hbB)).stays ((setStays _ _ _ _).mono hcB)); have S2 := hid (CmRows.as K2.out ((v2.mono (Nat.le_trans hB T1.out.size)).stays ((setStays _ _ _ _).mono hcB)) e2.names e2.items e2.keys e2.lit); clear e2; have T2 : Hid (Two b c w (w2.setCell ⟨c, 3, none⟩ (.slice A2 x2.length c2))) := hid ((T1.out.trans o2.two).trans (Two.set _ hbc _ _)); have R2 : Hid (RdI (w2.setCell ⟨c, 3, none⟩ (.slice A2 x2.length c2)) b s2) := hid (r2.far hbc _);  have Q2 := hid q2;  clear r2 q2 o2 h2) | (have Q2 := hid q2; have T2 := hid (T1.out.trans o2.two); clear q2 o2 h2)) <;> (clear t_ tok1; have tok2 : Tk 2 := ⟨⟩))
    | (go_at_call 53; have t_ : Tk 2 := ‹Tk 2›; refine (sign_any b s2 [32] _ R2.out).mono ?_; intro e w3 h3; rcases sign_cases h3 with ⟨q3, rfl, o3⟩ | ⟨s3, q3, rfl, r3, o3⟩ <;> (first | (have K3 : Hid (CmAt w3 c _ _) := hid (K2.out.only o3 hcb); have S3 := hid (S2.out.stays (o3.stays hbB)); have T3 := hid (T2.out.trans o3.two); have R3 := hid r3; have Q3 := hid q3; clear r3 q3 o3 h3) | (have Q3 := hid q3; have T3 := hid (T2.out.trans o3.two); clear q3 o3 h3)) <;> (clear t_ tok2; have tok3 : Tk 3 := ⟨⟩))
    | (go_at_call 64; have t_ : Tk 3 := ‹Tk 3›; refine (items_any b s3 _ R3.out).mono ?_; intro e w4 h4; rcases h4.cases with ⟨q4, rfl, o4⟩ | ⟨x4, s4, y4, q4, rfl, v4, r4, o4⟩ <;> (first | (obtain ⟨A4, c4, rfl, -, -, -⟩ := v4.choose_spec.1.full; have k4 := K3.out.only o4 hcb; have u4 := k4.c10; have f4 := k4.free 10; have K4 := hid (k4.set10 (.slice A4 x4.length c4) x4); have e4 := (show CmRows B (w4.setCell ⟨c, 10, none⟩ (.slice A4 x4.length c4)) _ _ from (S3.out.stays (o4.stays hbB)).stays ((setStays _ _ _ _).mono hcB)); have S4 := hid (CmRows.as K4.out e4.set e4.names ((v4.mono (Nat.le_trans hB T3.out.size)).stays ((setStays _ _ _ _).mono hcB)) e4.keys e4.lit); clear e4; have T4 : Hid (Two b c w (w4.setCell ⟨c, 10, none⟩ (.slice A4 x4.length c4))) := hid ((T3.out.trans o4.two).trans (Two.set _ hbc _ _)); have R4 : Hid (RdI (w4.setCell ⟨c, 10, none⟩ (.slice A4 x4.length c4)) b s4) := hid (r4.far hbc _);  have Q4 := hid q4;  clear r4 q4 o4 h4) | (have Q4 := hid q4; have T4 := hid (T3.out.trans o4.two); clear q4 o4 h4)) <;> (clear t_ tok3; have tok4 : Tk 4 := ⟨⟩)))
  all_goals first
    | (refine ⟨rfl, FormPost.panic ?_ T4.out⟩; rw [HR.out]; simp [readF, fetchF, Q1.out, Q2.out, Q3.out, Q4.out]; done)
    | (refine ⟨rfl, FormPost.panic ?_ T3.out⟩; rw [HR.out]; simp [readF, fetchF, Q1.out, Q2.out, Q3.out]; done)
    | (refine ⟨rfl, FormPost.panic ?_ T2.out⟩; rw [HR.out]; simp [readF, fetchF, Q1.out, Q2.out]; done)
    | (refine ⟨rfl, FormPost.panic ?_ T1.out⟩; rw [HR.out]; simp [readF, fetchF, Q1.out]; done)
    | skip
  go_end0
  exact FormPost.give (by rw [HR.out]; simp [readF, fetchF, Q1.out, Q2.out, Q3.out, Q4.out]; try rfl) T4.out R4.out K4.out S4.out

set_option maxHeartbeats 4000000 in
theorem login_any : FormC 56 (readF 3) := by
  intro b c B s x v w h hc hv hbc hcB hB hx7 hx6
  have hbB : b < B := by omega
  have hcb : c ≠ b := by omega
  have H := hid h
  have K0 := hid hc
  have S0 := hid hv
  have T0 := hid (Two.refl b c w)
  clear h hc hv
  obtain ⟨R, hR⟩ : ∃ R, R = (readF 3) x s := ⟨_, rfl⟩
  rw [← hR]
  have HR := hid hR
  clear hR
  have tok0 : Tk 0 := ⟨⟩
  go_enter Tryz.func56, Tryz.ntmps56
  go_wp2_with (first
    | (go_at_call 51; have t_ : Tk 0 := ‹Tk 0›; refine (then_any b s _ H.out).mono ?_; intro e w1 h1; rcases h1.cases with ⟨q1, rfl, o1⟩ | ⟨x1, s1, y1, q1, rfl, rfl, r1, o1⟩ <;> (first | (have K1 : Hid (CmAt w1 c _ _) := hid (K0.out.only o1 hcb); have S1 := hid (S0.out.stays (o1.stays hbB)); have T1 := hid (T0.out.trans o1.two); have R1 := hid r1;  have Q1 := hid q1;  clear r1 q1 o1 h1) | (have Q1 := hid q1; have T1 := hid (T0.out.trans o1.two); clear q1 o1 h1)) <;> (clear t_ tok0; have tok1 : Tk 1 := ⟨⟩))
    | (go_at_call 51; have t_ : Tk 1 := ‹Tk 1›; refine (then_any b s1 _ R1.out).mono ?_; intro e w2 h2; rcases h2.cases with ⟨q2, rfl, o2⟩ | ⟨x2, s2, y2, q2, rfl, rfl, r2, o2⟩ <;> (first | (have K2 : Hid (CmAt w2 c _ _) := hid (K1.out.only o2 hcb); have S2 := hid (S1.out.stays (o2.stays hbB)); have T2 := hid (T1.out.trans o2.two); have R2 := hid r2;  have Q2 := hid q2; have k2 := (K1.out.only o2 hcb); have u6 := fun ob => keep_below ((Below.refl w2.heap.size w2).alloc (Nat.le_refl _) ob) rfl k2.c6; have f6 := fun ob => keep_below_free ((Below.refl w2.heap.size w2).alloc (Nat.le_refl _) ob) k2.lt (k2.free 6); clear r2 q2 o2 h2) | (have Q2 := hid q2; have T2 := hid (T1.out.trans o2.two); clear q2 o2 h2)) <;> (clear t_ tok1; have tok2 : Tk 2 := ⟨⟩)))
  all_goals first
    | (refine ⟨rfl, FormPost.panic ?_ T2.out⟩; rw [HR.out]; simp [readF, loginF, Q1.out, Q2.out]; done)
    | (refine ⟨rfl, FormPost.panic ?_ T1.out⟩; rw [HR.out]; simp [readF, loginF, Q1.out]; done)
    | skip
  go_end0
  have hn : SBuf B (w2.alloc (.cells #[.string (str x1), .string (str x2)] 9)) (.slice (some ⟨w2.heap.size, 0, none⟩) 2 2) [x1, x2] := GBuf.mono (GBuf.lit w2 #[.string (str x1), .string (str x2)] 2 (by decide) rfl) (Nat.le_trans hB T2.out.size)
  exact FormPost.give (by rw [HR.out]; simp [readF, loginF, Q1.out, Q2.out]) ((T2.out.trans (Two.of ((Below.refl _ _).alloc (Nat.le_refl _) _) (Nat.le_of_lt R2.out.lt))).trans (Two.set _ hbc _ _)) ((R2.out.below ((Below.refl _ _).alloc (Nat.le_refl _) _)).far hbc _) ((K2.out.below ((Below.refl _ _).alloc (Nat.le_refl _) _)).set6 _ [x1, x2]) (have e := (S2.out.stays (Below.stays ((Below.refl w2.heap.size w2).alloc (Nat.le_refl _) (.cells #[.string (str x1), .string (str x2)] 9)))).stays ((setStays _ c 6 (.slice (some ⟨w2.heap.size, 0, none⟩) 2 2)).mono hcB); ⟨e.set, hn.stays ((setStays _ _ _ _).mono hcB), e.items, e.keys, e.lit⟩)
end Go.Proofs.YtfdmdmahddjjmaaGreatDoor
