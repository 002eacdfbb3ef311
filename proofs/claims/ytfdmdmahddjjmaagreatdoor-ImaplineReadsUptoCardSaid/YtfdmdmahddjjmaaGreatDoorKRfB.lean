/-
  The reference's runs of bytes of a kind.
-/
import Derived.Test.YtfdmdmahddjjmaaGreatDoorKRfA
import Derived.Test.YtfdmdmahddjjmaaGreatDoorPkIm0
set_option linter.unusedVariables false
set_option linter.unusedSimpArgs false
set_option maxRecDepth 100000
namespace Go.Proofs.YtfdmdmahddjjmaaGreatDoor
open Go.RowKit Own Im
attribute [local go_sem] str_toList str_size
theorem cls5 (c:UInt8):((c.toNat:Int) < 65)∨(65 ≤ (c.toNat:Int)∧(c.toNat:Int) ≤ 90)∨(90 < (c.toNat:Int)∧(c.toNat:Int) < 97)∨(97 ≤ (c.toNat:Int)∧(c.toNat:Int) ≤ 122)∨(122 < (c.toNat:Int)):=by omega
theorem let_out (c:UInt8) (h:(c.toNat:Int) < 65∨(90 < (c.toNat:Int)∧(c.toNat:Int) < 97)∨122 < (c.toNat:Int)):letB c = (isDg c || decide (c = 46)):=by
 have h1:(decide (97 ≤ c.toNat) && decide (c.toNat ≤ 122)) = false:=by simp;omega
 have h2:(decide (65 ≤ c.toNat) && decide (c.toNat ≤ 90)) = false:=by simp;omega
 unfold letB
 rw [h1,h2]
 simp
theorem let_in (c:UInt8) (h:(65 ≤ (c.toNat:Int)∧(c.toNat:Int) ≤ 90)∨(97 ≤ (c.toNat:Int)∧(c.toNat:Int) ≤ 122)):letB c = true:=by
 unfold letB
 rcases h with h | h
 · rw [decide_eq_true (p:=65 ≤ c.toNat) (by omega),decide_eq_true (p:=c.toNat ≤ 90) (by omega)];simp
 · rw [decide_eq_true (p:=97 ≤ c.toNat) (by omega),decide_eq_true (p:=c.toNat ≤ 122) (by omega)];simp
theorem ranged_in (c:UInt8):rangedB c = (isDg c || decide (c = 42) || decide (c = 58) || decide (c = 44)):=by
 unfold rangedB
 simp [Bool.or_assoc,List.contains_cons]
set_option maxHeartbeats 8000000 in
theorem rrun1_any (b:Nat) (s:Bt) (bad:Bool) (w:World) (h:RtT w b s bad) :
  Calls Tryz.prog 71 #[.pointer (some ⟨b,0,none⟩),.int .i64 1] w fun e w'=>e = .returned (.string (str (s.takeWhile atomB)))∧RtT w' b (s.dropWhile atomB) bad∧Only b w w':=by
 have hsz:=str_size s
 have hlen:=h.len
 have h0:=h.c0
 have f0:=h.free 0
 obtain ⟨k,hk⟩:∃ k,k = (s.takeWhile atomB).length:=⟨_,rfl⟩
 have hkl:k ≤ s.length:=by rw [hk];exact run_len atomB s
 have x1:(str s).extract 0 k = str (s.takeWhile atomB):=by rw [str_upto,hk,run_take]
 have x2:(str s).extract k s.length = str (s.dropWhile atomB):=by rw [str_from s k s.length rfl,hk,run_drop]
 have H:=hid h
 have HK:=hid hk
 have X1:=hid x1
 have X2:=hid x2
 clear h hk x1 x2
 go_enter Tryz.func71,Tryz.ntmps71
 go_wp2_with fail
 go_loop [5] (fun v5=>∃ i:Nat,i ≤ k∧v5 = .int .i64 i) (fun v5=>s.length - (intOf v5).toNat)
 case atStart=>exact ⟨0,Nat.zero_le _,rfl⟩
 case round =>
  obtain ⟨i,hi,rfl⟩:=hrel
  by_cases hil:i < s.length
  · obtain ⟨c,hc⟩:∃ c,s[i]? = some c:=⟨_,List.getElem?_eq_getElem hil⟩
    have hix:=str_ix hc
    have hkk:=run_at (p:=atomB) (by rw [HK.out] at hi;exact hi) hc
    rw [← HK.out] at hkk
    clear hc
    have hat:=fun W=>ratom_any c W
    have hdg:=fun W=>rdigit_any c W
    have h37:((c.toNat:Int) == 37) = decide (c = 37):=byte_eq2 37 c
    have h42:((c.toNat:Int) == 42) = decide (c = 42):=byte_eq2 42 c
    have h46:((c.toNat:Int) == 46) = decide (c = 46):=byte_eq2 46 c
    have h58:((c.toNat:Int) == 58) = decide (c = 58):=byte_eq2 58 c
    have h44:((c.toNat:Int) == 44) = decide (c = 44):=byte_eq2 44 c
    rcases cls5 c with hcl | hcl | hcl | hcl | hcl
    · have d97:decide (97 ≤ (c.toNat:Int)) = false:=decide_eq_false (by omega)
      have d122:decide ((c.toNat:Int) ≤ 122) = true:=decide_eq_true (by omega)
      have d65:decide (65 ≤ (c.toNat:Int)) = false:=decide_eq_false (by omega)
      have d90:decide ((c.toNat:Int) ≤ 90) = true:=decide_eq_true (by omega)
      have hpc:atomB c = atomB c:=rfl
      clear hdg h37 h42 h46 h58 h44 hcl
      obtain ⟨A,hA⟩:∃ x,atomB c = x:=⟨_,rfl⟩
      rw [hA] at hat
      cases A with
      | true =>
       have hp:atomB c = true:=hA
       have hlt:=hkk.1 hp
       clear hkk hp hpc hA
       go_wp2_with (first
        | (go_at_call 40;refine (hat _).mono ?_;rintro e w1 ⟨rfl,rfl⟩)
        | (go_at_call 38;refine (hdg _).mono ?_;rintro e w1 ⟨rfl,rfl⟩))
       go_round
       case rel=>exact ⟨i + 1,by omega,by go_num⟩
       case measure=>simp [intOf];omega
      | false =>
       have hp:atomB c = false:=hA
       obtain rfl:=hkk.2 hp
       clear hkk hp hpc hA
       go_wp2_with (first
        | (go_at_call 40;refine (hat _).mono ?_;rintro e w1 ⟨rfl,rfl⟩)
        | (go_at_call 38;refine (hdg _).mono ?_;rintro e w1 ⟨rfl,rfl⟩))
       go_ret
       refine ⟨?_,?_,Only.set _ _ _ _⟩
       · rw [X1.out]
         rfl
       · rw [X2.out]
         exact H.out.set0 _ (rest_len atomB s)
    · have d97:decide (97 ≤ (c.toNat:Int)) = false:=decide_eq_false (by omega)
      have d122:decide ((c.toNat:Int) ≤ 122) = true:=decide_eq_true (by omega)
      have d65:decide (65 ≤ (c.toNat:Int)) = true:=decide_eq_true (by omega)
      have d90:decide ((c.toNat:Int) ≤ 90) = true:=decide_eq_true (by omega)
      have hpc:atomB c = atomB c:=rfl
      clear hdg h37 h42 h46 h58 h44 hcl
      obtain ⟨A,hA⟩:∃ x,atomB c = x:=⟨_,rfl⟩
      rw [hA] at hat
      cases A with
      | true =>
       have hp:atomB c = true:=hA
       have hlt:=hkk.1 hp
       clear hkk hp hpc hA
       go_wp2_with (first
        | (go_at_call 40;refine (hat _).mono ?_;rintro e w1 ⟨rfl,rfl⟩)
        | (go_at_call 38;refine (hdg _).mono ?_;rintro e w1 ⟨rfl,rfl⟩))
       go_round
       case rel=>exact ⟨i + 1,by omega,by go_num⟩
       case measure=>simp [intOf];omega
      | false =>
       have hp:atomB c = false:=hA
       obtain rfl:=hkk.2 hp
       clear hkk hp hpc hA
       go_wp2_with (first
        | (go_at_call 40;refine (hat _).mono ?_;rintro e w1 ⟨rfl,rfl⟩)
        | (go_at_call 38;refine (hdg _).mono ?_;rintro e w1 ⟨rfl,rfl⟩))
       go_ret
       refine ⟨?_,?_,Only.set _ _ _ _⟩
       · rw [X1.out]
         rfl
       · rw [X2.out]
         exact H.out.set0 _ (rest_len atomB s)
    · have d97:decide (97 ≤ (c.toNat:Int)) = false:=decide_eq_false (by omega)
      have d122:decide ((c.toNat:Int) ≤ 122) = true:=decide_eq_true (by omega)
      have d65:decide (65 ≤ (c.toNat:Int)) = true:=decide_eq_true (by omega)
      have d90:decide ((c.toNat:Int) ≤ 90) = false:=decide_eq_false (by omega)
      have hpc:atomB c = atomB c:=rfl
      clear hdg h37 h42 h46 h58 h44 hcl
      obtain ⟨A,hA⟩:∃ x,atomB c = x:=⟨_,rfl⟩
      rw [hA] at hat
      cases A with
      | true =>
       have hp:atomB c = true:=hA
       have hlt:=hkk.1 hp
       clear hkk hp hpc hA
       go_wp2_with (first
        | (go_at_call 40;refine (hat _).mono ?_;rintro e w1 ⟨rfl,rfl⟩)
        | (go_at_call 38;refine (hdg _).mono ?_;rintro e w1 ⟨rfl,rfl⟩))
       go_round
       case rel=>exact ⟨i + 1,by omega,by go_num⟩
       case measure=>simp [intOf];omega
      | false =>
       have hp:atomB c = false:=hA
       obtain rfl:=hkk.2 hp
       clear hkk hp hpc hA
       go_wp2_with (first
        | (go_at_call 40;refine (hat _).mono ?_;rintro e w1 ⟨rfl,rfl⟩)
        | (go_at_call 38;refine (hdg _).mono ?_;rintro e w1 ⟨rfl,rfl⟩))
       go_ret
       refine ⟨?_,?_,Only.set _ _ _ _⟩
       · rw [X1.out]
         rfl
       · rw [X2.out]
         exact H.out.set0 _ (rest_len atomB s)
    · have d97:decide (97 ≤ (c.toNat:Int)) = true:=decide_eq_true (by omega)
      have d122:decide ((c.toNat:Int) ≤ 122) = true:=decide_eq_true (by omega)
      have d65:decide (65 ≤ (c.toNat:Int)) = true:=decide_eq_true (by omega)
      have d90:decide ((c.toNat:Int) ≤ 90) = false:=decide_eq_false (by omega)
      have hpc:atomB c = atomB c:=rfl
      clear hdg h37 h42 h46 h58 h44 hcl
      obtain ⟨A,hA⟩:∃ x,atomB c = x:=⟨_,rfl⟩
      rw [hA] at hat
      cases A with
      | true =>
       have hp:atomB c = true:=hA
       have hlt:=hkk.1 hp
       clear hkk hp hpc hA
       go_wp2_with (first
        | (go_at_call 40;refine (hat _).mono ?_;rintro e w1 ⟨rfl,rfl⟩)
        | (go_at_call 38;refine (hdg _).mono ?_;rintro e w1 ⟨rfl,rfl⟩))
       go_round
       case rel=>exact ⟨i + 1,by omega,by go_num⟩
       case measure=>simp [intOf];omega
      | false =>
       have hp:atomB c = false:=hA
       obtain rfl:=hkk.2 hp
       clear hkk hp hpc hA
       go_wp2_with (first
        | (go_at_call 40;refine (hat _).mono ?_;rintro e w1 ⟨rfl,rfl⟩)
        | (go_at_call 38;refine (hdg _).mono ?_;rintro e w1 ⟨rfl,rfl⟩))
       go_ret
       refine ⟨?_,?_,Only.set _ _ _ _⟩
       · rw [X1.out]
         rfl
       · rw [X2.out]
         exact H.out.set0 _ (rest_len atomB s)
    · have d97:decide (97 ≤ (c.toNat:Int)) = true:=decide_eq_true (by omega)
      have d122:decide ((c.toNat:Int) ≤ 122) = false:=decide_eq_false (by omega)
      have d65:decide (65 ≤ (c.toNat:Int)) = true:=decide_eq_true (by omega)
      have d90:decide ((c.toNat:Int) ≤ 90) = false:=decide_eq_false (by omega)
      have hpc:atomB c = atomB c:=rfl
      clear hdg h37 h42 h46 h58 h44 hcl
      obtain ⟨A,hA⟩:∃ x,atomB c = x:=⟨_,rfl⟩
      rw [hA] at hat
      cases A with
      | true =>
       have hp:atomB c = true:=hA
       have hlt:=hkk.1 hp
       clear hkk hp hpc hA
       go_wp2_with (first
        | (go_at_call 40;refine (hat _).mono ?_;rintro e w1 ⟨rfl,rfl⟩)
        | (go_at_call 38;refine (hdg _).mono ?_;rintro e w1 ⟨rfl,rfl⟩))
       go_round
       case rel=>exact ⟨i + 1,by omega,by go_num⟩
       case measure=>simp [intOf];omega
      | false =>
       have hp:atomB c = false:=hA
       obtain rfl:=hkk.2 hp
       clear hkk hp hpc hA
       go_wp2_with (first
        | (go_at_call 40;refine (hat _).mono ?_;rintro e w1 ⟨rfl,rfl⟩)
        | (go_at_call 38;refine (hdg _).mono ?_;rintro e w1 ⟨rfl,rfl⟩))
       go_ret
       refine ⟨?_,?_,Only.set _ _ _ _⟩
       · rw [X1.out]
         rfl
       · rw [X2.out]
         exact H.out.set0 _ (rest_len atomB s)
  · obtain rfl:i = s.length:=by omega
    obtain rfl:k = s.length:=by omega
    go_wp2_with fail
    go_ret
    refine ⟨?_,?_,Only.set _ _ _ _⟩
    · rw [X1.out]
      rfl
    · have hd:s.dropWhile atomB = []:=by rw [← run_drop,← HK.out,List.drop_length]
      rw [hd]
      exact H.out.set0 [] (Nat.zero_le _)
set_option maxHeartbeats 8000000 in
theorem rrun2_any (b:Nat) (s:Bt) (bad:Bool) (w:World) (h:RtT w b s bad) :
  Calls Tryz.prog 71 #[.pointer (some ⟨b,0,none⟩),.int .i64 2] w fun e w'=>e = .returned (.string (str (s.takeWhile patB)))∧RtT w' b (s.dropWhile patB) bad∧Only b w w':=by
 have hsz:=str_size s
 have hlen:=h.len
 have h0:=h.c0
 have f0:=h.free 0
 obtain ⟨k,hk⟩:∃ k,k = (s.takeWhile patB).length:=⟨_,rfl⟩
 have hkl:k ≤ s.length:=by rw [hk];exact run_len patB s
 have x1:(str s).extract 0 k = str (s.takeWhile patB):=by rw [str_upto,hk,run_take]
 have x2:(str s).extract k s.length = str (s.dropWhile patB):=by rw [str_from s k s.length rfl,hk,run_drop]
 have H:=hid h
 have HK:=hid hk
 have X1:=hid x1
 have X2:=hid x2
 clear h hk x1 x2
 go_enter Tryz.func71,Tryz.ntmps71
 go_wp2_with fail
 go_loop [5] (fun v5=>∃ i:Nat,i ≤ k∧v5 = .int .i64 i) (fun v5=>s.length - (intOf v5).toNat)
 case atStart=>exact ⟨0,Nat.zero_le _,rfl⟩
 case round =>
  obtain ⟨i,hi,rfl⟩:=hrel
  by_cases hil:i < s.length
  · obtain ⟨c,hc⟩:∃ c,s[i]? = some c:=⟨_,List.getElem?_eq_getElem hil⟩
    have hix:=str_ix hc
    have hkk:=run_at (p:=patB) (by rw [HK.out] at hi;exact hi) hc
    rw [← HK.out] at hkk
    clear hc
    have hat:=fun W=>ratom_any c W
    have hdg:=fun W=>rdigit_any c W
    have h37:((c.toNat:Int) == 37) = decide (c = 37):=byte_eq2 37 c
    have h42:((c.toNat:Int) == 42) = decide (c = 42):=byte_eq2 42 c
    have h46:((c.toNat:Int) == 46) = decide (c = 46):=byte_eq2 46 c
    have h58:((c.toNat:Int) == 58) = decide (c = 58):=byte_eq2 58 c
    have h44:((c.toNat:Int) == 44) = decide (c = 44):=byte_eq2 44 c
    rcases cls5 c with hcl | hcl | hcl | hcl | hcl
    · have d97:decide (97 ≤ (c.toNat:Int)) = false:=decide_eq_false (by omega)
      have d122:decide ((c.toNat:Int) ≤ 122) = true:=decide_eq_true (by omega)
      have d65:decide (65 ≤ (c.toNat:Int)) = false:=decide_eq_false (by omega)
      have d90:decide ((c.toNat:Int) ≤ 90) = true:=decide_eq_true (by omega)
      have hpc:patB c = (atomB c || decide (c = 37) || decide (c = 42)):=rfl
      clear hdg h46 h58 h44 hcl
      obtain ⟨A,hA⟩:∃ x,atomB c = x:=⟨_,rfl⟩
      rw [hA] at hat hpc
      obtain ⟨E37,hE37⟩:∃ x,decide (c = 37) = x:=⟨_,rfl⟩
      rw [hE37] at h37 hpc
      obtain ⟨E42,hE42⟩:∃ x,decide (c = 42) = x:=⟨_,rfl⟩
      rw [hE42] at h42 hpc
      cases A with
      | true =>
       have hp:patB c = true:=hpc
       have hlt:=hkk.1 hp
       clear hkk hp hpc hA hE37 hE42
       go_wp2_with (first
        | (go_at_call 40;refine (hat _).mono ?_;rintro e w1 ⟨rfl,rfl⟩)
        | (go_at_call 38;refine (hdg _).mono ?_;rintro e w1 ⟨rfl,rfl⟩))
       go_round
       case rel=>exact ⟨i + 1,by omega,by go_num⟩
       case measure=>simp [intOf];omega
      | false =>
       cases E37 with
       | true =>
        have hp:patB c = true:=hpc
        have hlt:=hkk.1 hp
        clear hkk hp hpc hA hE37 hE42
        go_wp2_with (first
         | (go_at_call 40;refine (hat _).mono ?_;rintro e w1 ⟨rfl,rfl⟩)
         | (go_at_call 38;refine (hdg _).mono ?_;rintro e w1 ⟨rfl,rfl⟩))
        go_round
        case rel=>exact ⟨i + 1,by omega,by go_num⟩
        case measure=>simp [intOf];omega
       | false =>
        cases E42 with
        | true =>
         have hp:patB c = true:=hpc
         have hlt:=hkk.1 hp
         clear hkk hp hpc hA hE37 hE42
         go_wp2_with (first
          | (go_at_call 40;refine (hat _).mono ?_;rintro e w1 ⟨rfl,rfl⟩)
          | (go_at_call 38;refine (hdg _).mono ?_;rintro e w1 ⟨rfl,rfl⟩))
         go_round
         case rel=>exact ⟨i + 1,by omega,by go_num⟩
         case measure=>simp [intOf];omega
        | false =>
         have hp:patB c = false:=hpc
         obtain rfl:=hkk.2 hp
         clear hkk hp hpc hA hE37 hE42
         go_wp2_with (first
          | (go_at_call 40;refine (hat _).mono ?_;rintro e w1 ⟨rfl,rfl⟩)
          | (go_at_call 38;refine (hdg _).mono ?_;rintro e w1 ⟨rfl,rfl⟩))
         go_ret
         refine ⟨?_,?_,Only.set _ _ _ _⟩
         · rw [X1.out]
           rfl
         · rw [X2.out]
           exact H.out.set0 _ (rest_len patB s)
    · have d97:decide (97 ≤ (c.toNat:Int)) = false:=decide_eq_false (by omega)
      have d122:decide ((c.toNat:Int) ≤ 122) = true:=decide_eq_true (by omega)
      have d65:decide (65 ≤ (c.toNat:Int)) = true:=decide_eq_true (by omega)
      have d90:decide ((c.toNat:Int) ≤ 90) = true:=decide_eq_true (by omega)
      have hpc:patB c = (atomB c || decide (c = 37) || decide (c = 42)):=rfl
      clear hdg h46 h58 h44 hcl
      obtain ⟨A,hA⟩:∃ x,atomB c = x:=⟨_,rfl⟩
      rw [hA] at hat hpc
      obtain ⟨E37,hE37⟩:∃ x,decide (c = 37) = x:=⟨_,rfl⟩
      rw [hE37] at h37 hpc
      obtain ⟨E42,hE42⟩:∃ x,decide (c = 42) = x:=⟨_,rfl⟩
      rw [hE42] at h42 hpc
      cases A with
      | true =>
       have hp:patB c = true:=hpc
       have hlt:=hkk.1 hp
       clear hkk hp hpc hA hE37 hE42
       go_wp2_with (first
        | (go_at_call 40;refine (hat _).mono ?_;rintro e w1 ⟨rfl,rfl⟩)
        | (go_at_call 38;refine (hdg _).mono ?_;rintro e w1 ⟨rfl,rfl⟩))
       go_round
       case rel=>exact ⟨i + 1,by omega,by go_num⟩
       case measure=>simp [intOf];omega
      | false =>
       cases E37 with
       | true =>
        have hp:patB c = true:=hpc
        have hlt:=hkk.1 hp
        clear hkk hp hpc hA hE37 hE42
        go_wp2_with (first
         | (go_at_call 40;refine (hat _).mono ?_;rintro e w1 ⟨rfl,rfl⟩)
         | (go_at_call 38;refine (hdg _).mono ?_;rintro e w1 ⟨rfl,rfl⟩))
        go_round
        case rel=>exact ⟨i + 1,by omega,by go_num⟩
        case measure=>simp [intOf];omega
       | false =>
        cases E42 with
        | true =>
         have hp:patB c = true:=hpc
         have hlt:=hkk.1 hp
         clear hkk hp hpc hA hE37 hE42
         go_wp2_with (first
          | (go_at_call 40;refine (hat _).mono ?_;rintro e w1 ⟨rfl,rfl⟩)
          | (go_at_call 38;refine (hdg _).mono ?_;rintro e w1 ⟨rfl,rfl⟩))
         go_round
         case rel=>exact ⟨i + 1,by omega,by go_num⟩
         case measure=>simp [intOf];omega
        | false =>
         have hp:patB c = false:=hpc
         obtain rfl:=hkk.2 hp
         clear hkk hp hpc hA hE37 hE42
         go_wp2_with (first
          | (go_at_call 40;refine (hat _).mono ?_;rintro e w1 ⟨rfl,rfl⟩)
          | (go_at_call 38;refine (hdg _).mono ?_;rintro e w1 ⟨rfl,rfl⟩))
         go_ret
         refine ⟨?_,?_,Only.set _ _ _ _⟩
         · rw [X1.out]
           rfl
         · rw [X2.out]
           exact H.out.set0 _ (rest_len patB s)
    · have d97:decide (97 ≤ (c.toNat:Int)) = false:=decide_eq_false (by omega)
      have d122:decide ((c.toNat:Int) ≤ 122) = true:=decide_eq_true (by omega)
      have d65:decide (65 ≤ (c.toNat:Int)) = true:=decide_eq_true (by omega)
      have d90:decide ((c.toNat:Int) ≤ 90) = false:=decide_eq_false (by omega)
      have hpc:patB c = (atomB c || decide (c = 37) || decide (c = 42)):=rfl
      clear hdg h46 h58 h44 hcl
      obtain ⟨A,hA⟩:∃ x,atomB c = x:=⟨_,rfl⟩
      rw [hA] at hat hpc
      obtain ⟨E37,hE37⟩:∃ x,decide (c = 37) = x:=⟨_,rfl⟩
      rw [hE37] at h37 hpc
      obtain ⟨E42,hE42⟩:∃ x,decide (c = 42) = x:=⟨_,rfl⟩
      rw [hE42] at h42 hpc
      cases A with
      | true =>
       have hp:patB c = true:=hpc
       have hlt:=hkk.1 hp
       clear hkk hp hpc hA hE37 hE42
       go_wp2_with (first
        | (go_at_call 40;refine (hat _).mono ?_;rintro e w1 ⟨rfl,rfl⟩)
        | (go_at_call 38;refine (hdg _).mono ?_;rintro e w1 ⟨rfl,rfl⟩))
       go_round
       case rel=>exact ⟨i + 1,by omega,by go_num⟩
       case measure=>simp [intOf];omega
      | false =>
       cases E37 with
       | true =>
        have hp:patB c = true:=hpc
        have hlt:=hkk.1 hp
        clear hkk hp hpc hA hE37 hE42
        go_wp2_with (first
         | (go_at_call 40;refine (hat _).mono ?_;rintro e w1 ⟨rfl,rfl⟩)
         | (go_at_call 38;refine (hdg _).mono ?_;rintro e w1 ⟨rfl,rfl⟩))
        go_round
        case rel=>exact ⟨i + 1,by omega,by go_num⟩
        case measure=>simp [intOf];omega
       | false =>
        cases E42 with
        | true =>
         have hp:patB c = true:=hpc
         have hlt:=hkk.1 hp
         clear hkk hp hpc hA hE37 hE42
         go_wp2_with (first
          | (go_at_call 40;refine (hat _).mono ?_;rintro e w1 ⟨rfl,rfl⟩)
          | (go_at_call 38;refine (hdg _).mono ?_;rintro e w1 ⟨rfl,rfl⟩))
         go_round
         case rel=>exact ⟨i + 1,by omega,by go_num⟩
         case measure=>simp [intOf];omega
        | false =>
         have hp:patB c = false:=hpc
         obtain rfl:=hkk.2 hp
         clear hkk hp hpc hA hE37 hE42
         go_wp2_with (first
          | (go_at_call 40;refine (hat _).mono ?_;rintro e w1 ⟨rfl,rfl⟩)
          | (go_at_call 38;refine (hdg _).mono ?_;rintro e w1 ⟨rfl,rfl⟩))
         go_ret
         refine ⟨?_,?_,Only.set _ _ _ _⟩
         · rw [X1.out]
           rfl
         · rw [X2.out]
           exact H.out.set0 _ (rest_len patB s)
    · have d97:decide (97 ≤ (c.toNat:Int)) = true:=decide_eq_true (by omega)
      have d122:decide ((c.toNat:Int) ≤ 122) = true:=decide_eq_true (by omega)
      have d65:decide (65 ≤ (c.toNat:Int)) = true:=decide_eq_true (by omega)
      have d90:decide ((c.toNat:Int) ≤ 90) = false:=decide_eq_false (by omega)
      have hpc:patB c = (atomB c || decide (c = 37) || decide (c = 42)):=rfl
      clear hdg h46 h58 h44 hcl
      obtain ⟨A,hA⟩:∃ x,atomB c = x:=⟨_,rfl⟩
      rw [hA] at hat hpc
      obtain ⟨E37,hE37⟩:∃ x,decide (c = 37) = x:=⟨_,rfl⟩
      rw [hE37] at h37 hpc
      obtain ⟨E42,hE42⟩:∃ x,decide (c = 42) = x:=⟨_,rfl⟩
      rw [hE42] at h42 hpc
      cases A with
      | true =>
       have hp:patB c = true:=hpc
       have hlt:=hkk.1 hp
       clear hkk hp hpc hA hE37 hE42
       go_wp2_with (first
        | (go_at_call 40;refine (hat _).mono ?_;rintro e w1 ⟨rfl,rfl⟩)
        | (go_at_call 38;refine (hdg _).mono ?_;rintro e w1 ⟨rfl,rfl⟩))
       go_round
       case rel=>exact ⟨i + 1,by omega,by go_num⟩
       case measure=>simp [intOf];omega
      | false =>
       cases E37 with
       | true =>
        have hp:patB c = true:=hpc
        have hlt:=hkk.1 hp
        clear hkk hp hpc hA hE37 hE42
        go_wp2_with (first
         | (go_at_call 40;refine (hat _).mono ?_;rintro e w1 ⟨rfl,rfl⟩)
         | (go_at_call 38;refine (hdg _).mono ?_;rintro e w1 ⟨rfl,rfl⟩))
        go_round
        case rel=>exact ⟨i + 1,by omega,by go_num⟩
        case measure=>simp [intOf];omega
       | false =>
        cases E42 with
        | true =>
         have hp:patB c = true:=hpc
         have hlt:=hkk.1 hp
         clear hkk hp hpc hA hE37 hE42
         go_wp2_with (first
          | (go_at_call 40;refine (hat _).mono ?_;rintro e w1 ⟨rfl,rfl⟩)
          | (go_at_call 38;refine (hdg _).mono ?_;rintro e w1 ⟨rfl,rfl⟩))
         go_round
         case rel=>exact ⟨i + 1,by omega,by go_num⟩
         case measure=>simp [intOf];omega
        | false =>
         have hp:patB c = false:=hpc
         obtain rfl:=hkk.2 hp
         clear hkk hp hpc hA hE37 hE42
         go_wp2_with (first
          | (go_at_call 40;refine (hat _).mono ?_;rintro e w1 ⟨rfl,rfl⟩)
          | (go_at_call 38;refine (hdg _).mono ?_;rintro e w1 ⟨rfl,rfl⟩))
         go_ret
         refine ⟨?_,?_,Only.set _ _ _ _⟩
         · rw [X1.out]
           rfl
         · rw [X2.out]
           exact H.out.set0 _ (rest_len patB s)
    · have d97:decide (97 ≤ (c.toNat:Int)) = true:=decide_eq_true (by omega)
      have d122:decide ((c.toNat:Int) ≤ 122) = false:=decide_eq_false (by omega)
      have d65:decide (65 ≤ (c.toNat:Int)) = true:=decide_eq_true (by omega)
      have d90:decide ((c.toNat:Int) ≤ 90) = false:=decide_eq_false (by omega)
      have hpc:patB c = (atomB c || decide (c = 37) || decide (c = 42)):=rfl
      clear hdg h46 h58 h44 hcl
      obtain ⟨A,hA⟩:∃ x,atomB c = x:=⟨_,rfl⟩
      rw [hA] at hat hpc
      obtain ⟨E37,hE37⟩:∃ x,decide (c = 37) = x:=⟨_,rfl⟩
      rw [hE37] at h37 hpc
      obtain ⟨E42,hE42⟩:∃ x,decide (c = 42) = x:=⟨_,rfl⟩
      rw [hE42] at h42 hpc
      cases A with
      | true =>
       have hp:patB c = true:=hpc
       have hlt:=hkk.1 hp
       clear hkk hp hpc hA hE37 hE42
       go_wp2_with (first
        | (go_at_call 40;refine (hat _).mono ?_;rintro e w1 ⟨rfl,rfl⟩)
        | (go_at_call 38;refine (hdg _).mono ?_;rintro e w1 ⟨rfl,rfl⟩))
       go_round
       case rel=>exact ⟨i + 1,by omega,by go_num⟩
       case measure=>simp [intOf];omega
      | false =>
       cases E37 with
       | true =>
        have hp:patB c = true:=hpc
        have hlt:=hkk.1 hp
        clear hkk hp hpc hA hE37 hE42
        go_wp2_with (first
         | (go_at_call 40;refine (hat _).mono ?_;rintro e w1 ⟨rfl,rfl⟩)
         | (go_at_call 38;refine (hdg _).mono ?_;rintro e w1 ⟨rfl,rfl⟩))
        go_round
        case rel=>exact ⟨i + 1,by omega,by go_num⟩
        case measure=>simp [intOf];omega
       | false =>
        cases E42 with
        | true =>
         have hp:patB c = true:=hpc
         have hlt:=hkk.1 hp
         clear hkk hp hpc hA hE37 hE42
         go_wp2_with (first
          | (go_at_call 40;refine (hat _).mono ?_;rintro e w1 ⟨rfl,rfl⟩)
          | (go_at_call 38;refine (hdg _).mono ?_;rintro e w1 ⟨rfl,rfl⟩))
         go_round
         case rel=>exact ⟨i + 1,by omega,by go_num⟩
         case measure=>simp [intOf];omega
        | false =>
         have hp:patB c = false:=hpc
         obtain rfl:=hkk.2 hp
         clear hkk hp hpc hA hE37 hE42
         go_wp2_with (first
          | (go_at_call 40;refine (hat _).mono ?_;rintro e w1 ⟨rfl,rfl⟩)
          | (go_at_call 38;refine (hdg _).mono ?_;rintro e w1 ⟨rfl,rfl⟩))
         go_ret
         refine ⟨?_,?_,Only.set _ _ _ _⟩
         · rw [X1.out]
           rfl
         · rw [X2.out]
           exact H.out.set0 _ (rest_len patB s)
  · obtain rfl:i = s.length:=by omega
    obtain rfl:k = s.length:=by omega
    go_wp2_with fail
    go_ret
    refine ⟨?_,?_,Only.set _ _ _ _⟩
    · rw [X1.out]
      rfl
    · have hd:s.dropWhile patB = []:=by rw [← run_drop,← HK.out,List.drop_length]
      rw [hd]
      exact H.out.set0 [] (Nat.zero_le _)
set_option maxHeartbeats 8000000 in
theorem rrun3_any (b:Nat) (s:Bt) (bad:Bool) (w:World) (h:RtT w b s bad) :
  Calls Tryz.prog 71 #[.pointer (some ⟨b,0,none⟩),.int .i64 3] w fun e w'=>e = .returned (.string (str (s.takeWhile letB)))∧RtT w' b (s.dropWhile letB) bad∧Only b w w':=by
 have hsz:=str_size s
 have hlen:=h.len
 have h0:=h.c0
 have f0:=h.free 0
 obtain ⟨k,hk⟩:∃ k,k = (s.takeWhile letB).length:=⟨_,rfl⟩
 have hkl:k ≤ s.length:=by rw [hk];exact run_len letB s
 have x1:(str s).extract 0 k = str (s.takeWhile letB):=by rw [str_upto,hk,run_take]
 have x2:(str s).extract k s.length = str (s.dropWhile letB):=by rw [str_from s k s.length rfl,hk,run_drop]
 have H:=hid h
 have HK:=hid hk
 have X1:=hid x1
 have X2:=hid x2
 clear h hk x1 x2
 go_enter Tryz.func71,Tryz.ntmps71
 go_wp2_with fail
 go_loop [5] (fun v5=>∃ i:Nat,i ≤ k∧v5 = .int .i64 i) (fun v5=>s.length - (intOf v5).toNat)
 case atStart=>exact ⟨0,Nat.zero_le _,rfl⟩
 case round =>
  obtain ⟨i,hi,rfl⟩:=hrel
  by_cases hil:i < s.length
  · obtain ⟨c,hc⟩:∃ c,s[i]? = some c:=⟨_,List.getElem?_eq_getElem hil⟩
    have hix:=str_ix hc
    have hkk:=run_at (p:=letB) (by rw [HK.out] at hi;exact hi) hc
    rw [← HK.out] at hkk
    clear hc
    have hat:=fun W=>ratom_any c W
    have hdg:=fun W=>rdigit_any c W
    have h37:((c.toNat:Int) == 37) = decide (c = 37):=byte_eq2 37 c
    have h42:((c.toNat:Int) == 42) = decide (c = 42):=byte_eq2 42 c
    have h46:((c.toNat:Int) == 46) = decide (c = 46):=byte_eq2 46 c
    have h58:((c.toNat:Int) == 58) = decide (c = 58):=byte_eq2 58 c
    have h44:((c.toNat:Int) == 44) = decide (c = 44):=byte_eq2 44 c
    rcases cls5 c with hcl | hcl | hcl | hcl | hcl
    · have d97:decide (97 ≤ (c.toNat:Int)) = false:=decide_eq_false (by omega)
      have d122:decide ((c.toNat:Int) ≤ 122) = true:=decide_eq_true (by omega)
      have d65:decide (65 ≤ (c.toNat:Int)) = false:=decide_eq_false (by omega)
      have d90:decide ((c.toNat:Int) ≤ 90) = true:=decide_eq_true (by omega)
      have hpc:=let_out c (by omega)
      clear hat h37 h42 h58 h44 hcl
      obtain ⟨D,hD⟩:∃ x,isDg c = x:=⟨_,rfl⟩
      rw [hD] at hdg hpc
      obtain ⟨E46,hE46⟩:∃ x,decide (c = 46) = x:=⟨_,rfl⟩
      rw [hE46] at h46 hpc
      cases D with
      | true =>
       have hp:letB c = true:=hpc
       have hlt:=hkk.1 hp
       clear hkk hp hpc hD hE46
       go_wp2_with (first
        | (go_at_call 40;refine (hat _).mono ?_;rintro e w1 ⟨rfl,rfl⟩)
        | (go_at_call 38;refine (hdg _).mono ?_;rintro e w1 ⟨rfl,rfl⟩))
       go_round
       case rel=>exact ⟨i + 1,by omega,by go_num⟩
       case measure=>simp [intOf];omega
      | false =>
       cases E46 with
       | true =>
        have hp:letB c = true:=hpc
        have hlt:=hkk.1 hp
        clear hkk hp hpc hD hE46
        go_wp2_with (first
         | (go_at_call 40;refine (hat _).mono ?_;rintro e w1 ⟨rfl,rfl⟩)
         | (go_at_call 38;refine (hdg _).mono ?_;rintro e w1 ⟨rfl,rfl⟩))
        go_round
        case rel=>exact ⟨i + 1,by omega,by go_num⟩
        case measure=>simp [intOf];omega
       | false =>
        have hp:letB c = false:=hpc
        obtain rfl:=hkk.2 hp
        clear hkk hp hpc hD hE46
        go_wp2_with (first
         | (go_at_call 40;refine (hat _).mono ?_;rintro e w1 ⟨rfl,rfl⟩)
         | (go_at_call 38;refine (hdg _).mono ?_;rintro e w1 ⟨rfl,rfl⟩))
        go_ret
        refine ⟨?_,?_,Only.set _ _ _ _⟩
        · rw [X1.out]
          rfl
        · rw [X2.out]
          exact H.out.set0 _ (rest_len letB s)
    · have d97:decide (97 ≤ (c.toNat:Int)) = false:=decide_eq_false (by omega)
      have d122:decide ((c.toNat:Int) ≤ 122) = true:=decide_eq_true (by omega)
      have d65:decide (65 ≤ (c.toNat:Int)) = true:=decide_eq_true (by omega)
      have d90:decide ((c.toNat:Int) ≤ 90) = true:=decide_eq_true (by omega)
      have hpc:letB c = true:=let_in c (by omega)
      clear hat hdg h37 h42 h46 h58 h44 hcl
      have hp:letB c = true:=hpc
      have hlt:=hkk.1 hp
      clear hkk hp hpc
      go_wp2_with (first
       | (go_at_call 40;refine (hat _).mono ?_;rintro e w1 ⟨rfl,rfl⟩)
       | (go_at_call 38;refine (hdg _).mono ?_;rintro e w1 ⟨rfl,rfl⟩))
      go_round
      case rel=>exact ⟨i + 1,by omega,by go_num⟩
      case measure=>simp [intOf];omega
    · have d97:decide (97 ≤ (c.toNat:Int)) = false:=decide_eq_false (by omega)
      have d122:decide ((c.toNat:Int) ≤ 122) = true:=decide_eq_true (by omega)
      have d65:decide (65 ≤ (c.toNat:Int)) = true:=decide_eq_true (by omega)
      have d90:decide ((c.toNat:Int) ≤ 90) = false:=decide_eq_false (by omega)
      have hpc:=let_out c (by omega)
      clear hat h37 h42 h58 h44 hcl
      obtain ⟨D,hD⟩:∃ x,isDg c = x:=⟨_,rfl⟩
      rw [hD] at hdg hpc
      obtain ⟨E46,hE46⟩:∃ x,decide (c = 46) = x:=⟨_,rfl⟩
      rw [hE46] at h46 hpc
      cases D with
      | true =>
       have hp:letB c = true:=hpc
       have hlt:=hkk.1 hp
       clear hkk hp hpc hD hE46
       go_wp2_with (first
        | (go_at_call 40;refine (hat _).mono ?_;rintro e w1 ⟨rfl,rfl⟩)
        | (go_at_call 38;refine (hdg _).mono ?_;rintro e w1 ⟨rfl,rfl⟩))
       go_round
       case rel=>exact ⟨i + 1,by omega,by go_num⟩
       case measure=>simp [intOf];omega
      | false =>
       cases E46 with
       | true =>
        have hp:letB c = true:=hpc
        have hlt:=hkk.1 hp
        clear hkk hp hpc hD hE46
        go_wp2_with (first
         | (go_at_call 40;refine (hat _).mono ?_;rintro e w1 ⟨rfl,rfl⟩)
         | (go_at_call 38;refine (hdg _).mono ?_;rintro e w1 ⟨rfl,rfl⟩))
        go_round
        case rel=>exact ⟨i + 1,by omega,by go_num⟩
        case measure=>simp [intOf];omega
       | false =>
        have hp:letB c = false:=hpc
        obtain rfl:=hkk.2 hp
        clear hkk hp hpc hD hE46
        go_wp2_with (first
         | (go_at_call 40;refine (hat _).mono ?_;rintro e w1 ⟨rfl,rfl⟩)
         | (go_at_call 38;refine (hdg _).mono ?_;rintro e w1 ⟨rfl,rfl⟩))
        go_ret
        refine ⟨?_,?_,Only.set _ _ _ _⟩
        · rw [X1.out]
          rfl
        · rw [X2.out]
          exact H.out.set0 _ (rest_len letB s)
    · have d97:decide (97 ≤ (c.toNat:Int)) = true:=decide_eq_true (by omega)
      have d122:decide ((c.toNat:Int) ≤ 122) = true:=decide_eq_true (by omega)
      have d65:decide (65 ≤ (c.toNat:Int)) = true:=decide_eq_true (by omega)
      have d90:decide ((c.toNat:Int) ≤ 90) = false:=decide_eq_false (by omega)
      have hpc:letB c = true:=let_in c (by omega)
      clear hat hdg h37 h42 h46 h58 h44 hcl
      have hp:letB c = true:=hpc
      have hlt:=hkk.1 hp
      clear hkk hp hpc
      go_wp2_with (first
       | (go_at_call 40;refine (hat _).mono ?_;rintro e w1 ⟨rfl,rfl⟩)
       | (go_at_call 38;refine (hdg _).mono ?_;rintro e w1 ⟨rfl,rfl⟩))
      go_round
      case rel=>exact ⟨i + 1,by omega,by go_num⟩
      case measure=>simp [intOf];omega
    · have d97:decide (97 ≤ (c.toNat:Int)) = true:=decide_eq_true (by omega)
      have d122:decide ((c.toNat:Int) ≤ 122) = false:=decide_eq_false (by omega)
      have d65:decide (65 ≤ (c.toNat:Int)) = true:=decide_eq_true (by omega)
      have d90:decide ((c.toNat:Int) ≤ 90) = false:=decide_eq_false (by omega)
      have hpc:=let_out c (by omega)
      clear hat h37 h42 h58 h44 hcl
      obtain ⟨D,hD⟩:∃ x,isDg c = x:=⟨_,rfl⟩
      rw [hD] at hdg hpc
      obtain ⟨E46,hE46⟩:∃ x,decide (c = 46) = x:=⟨_,rfl⟩
      rw [hE46] at h46 hpc
      cases D with
      | true =>
       have hp:letB c = true:=hpc
       have hlt:=hkk.1 hp
       clear hkk hp hpc hD hE46
       go_wp2_with (first
        | (go_at_call 40;refine (hat _).mono ?_;rintro e w1 ⟨rfl,rfl⟩)
        | (go_at_call 38;refine (hdg _).mono ?_;rintro e w1 ⟨rfl,rfl⟩))
       go_round
       case rel=>exact ⟨i + 1,by omega,by go_num⟩
       case measure=>simp [intOf];omega
      | false =>
       cases E46 with
       | true =>
        have hp:letB c = true:=hpc
        have hlt:=hkk.1 hp
        clear hkk hp hpc hD hE46
        go_wp2_with (first
         | (go_at_call 40;refine (hat _).mono ?_;rintro e w1 ⟨rfl,rfl⟩)
         | (go_at_call 38;refine (hdg _).mono ?_;rintro e w1 ⟨rfl,rfl⟩))
        go_round
        case rel=>exact ⟨i + 1,by omega,by go_num⟩
        case measure=>simp [intOf];omega
       | false =>
        have hp:letB c = false:=hpc
        obtain rfl:=hkk.2 hp
        clear hkk hp hpc hD hE46
        go_wp2_with (first
         | (go_at_call 40;refine (hat _).mono ?_;rintro e w1 ⟨rfl,rfl⟩)
         | (go_at_call 38;refine (hdg _).mono ?_;rintro e w1 ⟨rfl,rfl⟩))
        go_ret
        refine ⟨?_,?_,Only.set _ _ _ _⟩
        · rw [X1.out]
          rfl
        · rw [X2.out]
          exact H.out.set0 _ (rest_len letB s)
  · obtain rfl:i = s.length:=by omega
    obtain rfl:k = s.length:=by omega
    go_wp2_with fail
    go_ret
    refine ⟨?_,?_,Only.set _ _ _ _⟩
    · rw [X1.out]
      rfl
    · have hd:s.dropWhile letB = []:=by rw [← run_drop,← HK.out,List.drop_length]
      rw [hd]
      exact H.out.set0 [] (Nat.zero_le _)
set_option maxHeartbeats 8000000 in
theorem rrun4_any (b:Nat) (s:Bt) (bad:Bool) (w:World) (h:RtT w b s bad) :
  Calls Tryz.prog 71 #[.pointer (some ⟨b,0,none⟩),.int .i64 4] w fun e w'=>e = .returned (.string (str (s.takeWhile isDg)))∧RtT w' b (s.dropWhile isDg) bad∧Only b w w':=by
 have hsz:=str_size s
 have hlen:=h.len
 have h0:=h.c0
 have f0:=h.free 0
 obtain ⟨k,hk⟩:∃ k,k = (s.takeWhile isDg).length:=⟨_,rfl⟩
 have hkl:k ≤ s.length:=by rw [hk];exact run_len isDg s
 have x1:(str s).extract 0 k = str (s.takeWhile isDg):=by rw [str_upto,hk,run_take]
 have x2:(str s).extract k s.length = str (s.dropWhile isDg):=by rw [str_from s k s.length rfl,hk,run_drop]
 have H:=hid h
 have HK:=hid hk
 have X1:=hid x1
 have X2:=hid x2
 clear h hk x1 x2
 go_enter Tryz.func71,Tryz.ntmps71
 go_wp2_with fail
 go_loop [5] (fun v5=>∃ i:Nat,i ≤ k∧v5 = .int .i64 i) (fun v5=>s.length - (intOf v5).toNat)
 case atStart=>exact ⟨0,Nat.zero_le _,rfl⟩
 case round =>
  obtain ⟨i,hi,rfl⟩:=hrel
  by_cases hil:i < s.length
  · obtain ⟨c,hc⟩:∃ c,s[i]? = some c:=⟨_,List.getElem?_eq_getElem hil⟩
    have hix:=str_ix hc
    have hkk:=run_at (p:=isDg) (by rw [HK.out] at hi;exact hi) hc
    rw [← HK.out] at hkk
    clear hc
    have hat:=fun W=>ratom_any c W
    have hdg:=fun W=>rdigit_any c W
    have h37:((c.toNat:Int) == 37) = decide (c = 37):=byte_eq2 37 c
    have h42:((c.toNat:Int) == 42) = decide (c = 42):=byte_eq2 42 c
    have h46:((c.toNat:Int) == 46) = decide (c = 46):=byte_eq2 46 c
    have h58:((c.toNat:Int) == 58) = decide (c = 58):=byte_eq2 58 c
    have h44:((c.toNat:Int) == 44) = decide (c = 44):=byte_eq2 44 c
    rcases cls5 c with hcl | hcl | hcl | hcl | hcl
    · have d97:decide (97 ≤ (c.toNat:Int)) = false:=decide_eq_false (by omega)
      have d122:decide ((c.toNat:Int) ≤ 122) = true:=decide_eq_true (by omega)
      have d65:decide (65 ≤ (c.toNat:Int)) = false:=decide_eq_false (by omega)
      have d90:decide ((c.toNat:Int) ≤ 90) = true:=decide_eq_true (by omega)
      have hpc:isDg c = isDg c:=rfl
      clear hat h37 h42 h46 h58 h44 hcl
      obtain ⟨D,hD⟩:∃ x,isDg c = x:=⟨_,rfl⟩
      rw [hD] at hdg
      cases D with
      | true =>
       have hp:isDg c = true:=hD
       have hlt:=hkk.1 hp
       clear hkk hp hpc hD
       go_wp2_with (first
        | (go_at_call 40;refine (hat _).mono ?_;rintro e w1 ⟨rfl,rfl⟩)
        | (go_at_call 38;refine (hdg _).mono ?_;rintro e w1 ⟨rfl,rfl⟩))
       go_round
       case rel=>exact ⟨i + 1,by omega,by go_num⟩
       case measure=>simp [intOf];omega
      | false =>
       have hp:isDg c = false:=hD
       obtain rfl:=hkk.2 hp
       clear hkk hp hpc hD
       go_wp2_with (first
        | (go_at_call 40;refine (hat _).mono ?_;rintro e w1 ⟨rfl,rfl⟩)
        | (go_at_call 38;refine (hdg _).mono ?_;rintro e w1 ⟨rfl,rfl⟩))
       go_ret
       refine ⟨?_,?_,Only.set _ _ _ _⟩
       · rw [X1.out]
         rfl
       · rw [X2.out]
         exact H.out.set0 _ (rest_len isDg s)
    · have d97:decide (97 ≤ (c.toNat:Int)) = false:=decide_eq_false (by omega)
      have d122:decide ((c.toNat:Int) ≤ 122) = true:=decide_eq_true (by omega)
      have d65:decide (65 ≤ (c.toNat:Int)) = true:=decide_eq_true (by omega)
      have d90:decide ((c.toNat:Int) ≤ 90) = true:=decide_eq_true (by omega)
      have hpc:isDg c = isDg c:=rfl
      clear hat h37 h42 h46 h58 h44 hcl
      obtain ⟨D,hD⟩:∃ x,isDg c = x:=⟨_,rfl⟩
      rw [hD] at hdg
      cases D with
      | true =>
       have hp:isDg c = true:=hD
       have hlt:=hkk.1 hp
       clear hkk hp hpc hD
       go_wp2_with (first
        | (go_at_call 40;refine (hat _).mono ?_;rintro e w1 ⟨rfl,rfl⟩)
        | (go_at_call 38;refine (hdg _).mono ?_;rintro e w1 ⟨rfl,rfl⟩))
       go_round
       case rel=>exact ⟨i + 1,by omega,by go_num⟩
       case measure=>simp [intOf];omega
      | false =>
       have hp:isDg c = false:=hD
       obtain rfl:=hkk.2 hp
       clear hkk hp hpc hD
       go_wp2_with (first
        | (go_at_call 40;refine (hat _).mono ?_;rintro e w1 ⟨rfl,rfl⟩)
        | (go_at_call 38;refine (hdg _).mono ?_;rintro e w1 ⟨rfl,rfl⟩))
       go_ret
       refine ⟨?_,?_,Only.set _ _ _ _⟩
       · rw [X1.out]
         rfl
       · rw [X2.out]
         exact H.out.set0 _ (rest_len isDg s)
    · have d97:decide (97 ≤ (c.toNat:Int)) = false:=decide_eq_false (by omega)
      have d122:decide ((c.toNat:Int) ≤ 122) = true:=decide_eq_true (by omega)
      have d65:decide (65 ≤ (c.toNat:Int)) = true:=decide_eq_true (by omega)
      have d90:decide ((c.toNat:Int) ≤ 90) = false:=decide_eq_false (by omega)
      have hpc:isDg c = isDg c:=rfl
      clear hat h37 h42 h46 h58 h44 hcl
      obtain ⟨D,hD⟩:∃ x,isDg c = x:=⟨_,rfl⟩
      rw [hD] at hdg
      cases D with
      | true =>
       have hp:isDg c = true:=hD
       have hlt:=hkk.1 hp
       clear hkk hp hpc hD
       go_wp2_with (first
        | (go_at_call 40;refine (hat _).mono ?_;rintro e w1 ⟨rfl,rfl⟩)
        | (go_at_call 38;refine (hdg _).mono ?_;rintro e w1 ⟨rfl,rfl⟩))
       go_round
       case rel=>exact ⟨i + 1,by omega,by go_num⟩
       case measure=>simp [intOf];omega
      | false =>
       have hp:isDg c = false:=hD
       obtain rfl:=hkk.2 hp
       clear hkk hp hpc hD
       go_wp2_with (first
        | (go_at_call 40;refine (hat _).mono ?_;rintro e w1 ⟨rfl,rfl⟩)
        | (go_at_call 38;refine (hdg _).mono ?_;rintro e w1 ⟨rfl,rfl⟩))
       go_ret
       refine ⟨?_,?_,Only.set _ _ _ _⟩
       · rw [X1.out]
         rfl
       · rw [X2.out]
         exact H.out.set0 _ (rest_len isDg s)
    · have d97:decide (97 ≤ (c.toNat:Int)) = true:=decide_eq_true (by omega)
      have d122:decide ((c.toNat:Int) ≤ 122) = true:=decide_eq_true (by omega)
      have d65:decide (65 ≤ (c.toNat:Int)) = true:=decide_eq_true (by omega)
      have d90:decide ((c.toNat:Int) ≤ 90) = false:=decide_eq_false (by omega)
      have hpc:isDg c = isDg c:=rfl
      clear hat h37 h42 h46 h58 h44 hcl
      obtain ⟨D,hD⟩:∃ x,isDg c = x:=⟨_,rfl⟩
      rw [hD] at hdg
      cases D with
      | true =>
       have hp:isDg c = true:=hD
       have hlt:=hkk.1 hp
       clear hkk hp hpc hD
       go_wp2_with (first
        | (go_at_call 40;refine (hat _).mono ?_;rintro e w1 ⟨rfl,rfl⟩)
        | (go_at_call 38;refine (hdg _).mono ?_;rintro e w1 ⟨rfl,rfl⟩))
       go_round
       case rel=>exact ⟨i + 1,by omega,by go_num⟩
       case measure=>simp [intOf];omega
      | false =>
       have hp:isDg c = false:=hD
       obtain rfl:=hkk.2 hp
       clear hkk hp hpc hD
       go_wp2_with (first
        | (go_at_call 40;refine (hat _).mono ?_;rintro e w1 ⟨rfl,rfl⟩)
        | (go_at_call 38;refine (hdg _).mono ?_;rintro e w1 ⟨rfl,rfl⟩))
       go_ret
       refine ⟨?_,?_,Only.set _ _ _ _⟩
       · rw [X1.out]
         rfl
       · rw [X2.out]
         exact H.out.set0 _ (rest_len isDg s)
    · have d97:decide (97 ≤ (c.toNat:Int)) = true:=decide_eq_true (by omega)
      have d122:decide ((c.toNat:Int) ≤ 122) = false:=decide_eq_false (by omega)
      have d65:decide (65 ≤ (c.toNat:Int)) = true:=decide_eq_true (by omega)
      have d90:decide ((c.toNat:Int) ≤ 90) = false:=decide_eq_false (by omega)
      have hpc:isDg c = isDg c:=rfl
      clear hat h37 h42 h46 h58 h44 hcl
      obtain ⟨D,hD⟩:∃ x,isDg c = x:=⟨_,rfl⟩
      rw [hD] at hdg
      cases D with
      | true =>
       have hp:isDg c = true:=hD
       have hlt:=hkk.1 hp
       clear hkk hp hpc hD
       go_wp2_with (first
        | (go_at_call 40;refine (hat _).mono ?_;rintro e w1 ⟨rfl,rfl⟩)
        | (go_at_call 38;refine (hdg _).mono ?_;rintro e w1 ⟨rfl,rfl⟩))
       go_round
       case rel=>exact ⟨i + 1,by omega,by go_num⟩
       case measure=>simp [intOf];omega
      | false =>
       have hp:isDg c = false:=hD
       obtain rfl:=hkk.2 hp
       clear hkk hp hpc hD
       go_wp2_with (first
        | (go_at_call 40;refine (hat _).mono ?_;rintro e w1 ⟨rfl,rfl⟩)
        | (go_at_call 38;refine (hdg _).mono ?_;rintro e w1 ⟨rfl,rfl⟩))
       go_ret
       refine ⟨?_,?_,Only.set _ _ _ _⟩
       · rw [X1.out]
         rfl
       · rw [X2.out]
         exact H.out.set0 _ (rest_len isDg s)
  · obtain rfl:i = s.length:=by omega
    obtain rfl:k = s.length:=by omega
    go_wp2_with fail
    go_ret
    refine ⟨?_,?_,Only.set _ _ _ _⟩
    · rw [X1.out]
      rfl
    · have hd:s.dropWhile isDg = []:=by rw [← run_drop,← HK.out,List.drop_length]
      rw [hd]
      exact H.out.set0 [] (Nat.zero_le _)
set_option maxHeartbeats 8000000 in
theorem rrun5_any (b:Nat) (s:Bt) (bad:Bool) (w:World) (h:RtT w b s bad) :
  Calls Tryz.prog 71 #[.pointer (some ⟨b,0,none⟩),.int .i64 5] w fun e w'=>e = .returned (.string (str (s.takeWhile rangedB)))∧RtT w' b (s.dropWhile rangedB) bad∧Only b w w':=by
 have hsz:=str_size s
 have hlen:=h.len
 have h0:=h.c0
 have f0:=h.free 0
 obtain ⟨k,hk⟩:∃ k,k = (s.takeWhile rangedB).length:=⟨_,rfl⟩
 have hkl:k ≤ s.length:=by rw [hk];exact run_len rangedB s
 have x1:(str s).extract 0 k = str (s.takeWhile rangedB):=by rw [str_upto,hk,run_take]
 have x2:(str s).extract k s.length = str (s.dropWhile rangedB):=by rw [str_from s k s.length rfl,hk,run_drop]
 have H:=hid h
 have HK:=hid hk
 have X1:=hid x1
 have X2:=hid x2
 clear h hk x1 x2
 go_enter Tryz.func71,Tryz.ntmps71
 go_wp2_with fail
 go_loop [5] (fun v5=>∃ i:Nat,i ≤ k∧v5 = .int .i64 i) (fun v5=>s.length - (intOf v5).toNat)
 case atStart=>exact ⟨0,Nat.zero_le _,rfl⟩
 case round =>
  obtain ⟨i,hi,rfl⟩:=hrel
  by_cases hil:i < s.length
  · obtain ⟨c,hc⟩:∃ c,s[i]? = some c:=⟨_,List.getElem?_eq_getElem hil⟩
    have hix:=str_ix hc
    have hkk:=run_at (p:=rangedB) (by rw [HK.out] at hi;exact hi) hc
    rw [← HK.out] at hkk
    clear hc
    have hat:=fun W=>ratom_any c W
    have hdg:=fun W=>rdigit_any c W
    have h37:((c.toNat:Int) == 37) = decide (c = 37):=byte_eq2 37 c
    have h42:((c.toNat:Int) == 42) = decide (c = 42):=byte_eq2 42 c
    have h46:((c.toNat:Int) == 46) = decide (c = 46):=byte_eq2 46 c
    have h58:((c.toNat:Int) == 58) = decide (c = 58):=byte_eq2 58 c
    have h44:((c.toNat:Int) == 44) = decide (c = 44):=byte_eq2 44 c
    rcases cls5 c with hcl | hcl | hcl | hcl | hcl
    · have d97:decide (97 ≤ (c.toNat:Int)) = false:=decide_eq_false (by omega)
      have d122:decide ((c.toNat:Int) ≤ 122) = true:=decide_eq_true (by omega)
      have d65:decide (65 ≤ (c.toNat:Int)) = false:=decide_eq_false (by omega)
      have d90:decide ((c.toNat:Int) ≤ 90) = true:=decide_eq_true (by omega)
      have hpc:=ranged_in c
      clear hat h37 h46 hcl
      obtain ⟨D,hD⟩:∃ x,isDg c = x:=⟨_,rfl⟩
      rw [hD] at hdg hpc
      obtain ⟨E42,hE42⟩:∃ x,decide (c = 42) = x:=⟨_,rfl⟩
      rw [hE42] at h42 hpc
      obtain ⟨E58,hE58⟩:∃ x,decide (c = 58) = x:=⟨_,rfl⟩
      rw [hE58] at h58 hpc
      obtain ⟨E44,hE44⟩:∃ x,decide (c = 44) = x:=⟨_,rfl⟩
      rw [hE44] at h44 hpc
      cases D with
      | true =>
       have hp:rangedB c = true:=hpc
       have hlt:=hkk.1 hp
       clear hkk hp hpc hD hE42 hE58 hE44
       go_wp2_with (first
        | (go_at_call 40;refine (hat _).mono ?_;rintro e w1 ⟨rfl,rfl⟩)
        | (go_at_call 38;refine (hdg _).mono ?_;rintro e w1 ⟨rfl,rfl⟩))
       go_round
       case rel=>exact ⟨i + 1,by omega,by go_num⟩
       case measure=>simp [intOf];omega
      | false =>
       cases E42 with
       | true =>
        have hp:rangedB c = true:=hpc
        have hlt:=hkk.1 hp
        clear hkk hp hpc hD hE42 hE58 hE44
        go_wp2_with (first
         | (go_at_call 40;refine (hat _).mono ?_;rintro e w1 ⟨rfl,rfl⟩)
         | (go_at_call 38;refine (hdg _).mono ?_;rintro e w1 ⟨rfl,rfl⟩))
        go_round
        case rel=>exact ⟨i + 1,by omega,by go_num⟩
        case measure=>simp [intOf];omega
       | false =>
        cases E58 with
        | true =>
         have hp:rangedB c = true:=hpc
         have hlt:=hkk.1 hp
         clear hkk hp hpc hD hE42 hE58 hE44
         go_wp2_with (first
          | (go_at_call 40;refine (hat _).mono ?_;rintro e w1 ⟨rfl,rfl⟩)
          | (go_at_call 38;refine (hdg _).mono ?_;rintro e w1 ⟨rfl,rfl⟩))
         go_round
         case rel=>exact ⟨i + 1,by omega,by go_num⟩
         case measure=>simp [intOf];omega
        | false =>
         cases E44 with
         | true =>
          have hp:rangedB c = true:=hpc
          have hlt:=hkk.1 hp
          clear hkk hp hpc hD hE42 hE58 hE44
          go_wp2_with (first
           | (go_at_call 40;refine (hat _).mono ?_;rintro e w1 ⟨rfl,rfl⟩)
           | (go_at_call 38;refine (hdg _).mono ?_;rintro e w1 ⟨rfl,rfl⟩))
          go_round
          case rel=>exact ⟨i + 1,by omega,by go_num⟩
          case measure=>simp [intOf];omega
         | false =>
          have hp:rangedB c = false:=hpc
          obtain rfl:=hkk.2 hp
          clear hkk hp hpc hD hE42 hE58 hE44
          go_wp2_with (first
           | (go_at_call 40;refine (hat _).mono ?_;rintro e w1 ⟨rfl,rfl⟩)
           | (go_at_call 38;refine (hdg _).mono ?_;rintro e w1 ⟨rfl,rfl⟩))
          go_ret
          refine ⟨?_,?_,Only.set _ _ _ _⟩
          · rw [X1.out]
            rfl
          · rw [X2.out]
            exact H.out.set0 _ (rest_len rangedB s)
    · have d97:decide (97 ≤ (c.toNat:Int)) = false:=decide_eq_false (by omega)
      have d122:decide ((c.toNat:Int) ≤ 122) = true:=decide_eq_true (by omega)
      have d65:decide (65 ≤ (c.toNat:Int)) = true:=decide_eq_true (by omega)
      have d90:decide ((c.toNat:Int) ≤ 90) = true:=decide_eq_true (by omega)
      have hpc:=ranged_in c
      clear hat h37 h46 hcl
      obtain ⟨D,hD⟩:∃ x,isDg c = x:=⟨_,rfl⟩
      rw [hD] at hdg hpc
      obtain ⟨E42,hE42⟩:∃ x,decide (c = 42) = x:=⟨_,rfl⟩
      rw [hE42] at h42 hpc
      obtain ⟨E58,hE58⟩:∃ x,decide (c = 58) = x:=⟨_,rfl⟩
      rw [hE58] at h58 hpc
      obtain ⟨E44,hE44⟩:∃ x,decide (c = 44) = x:=⟨_,rfl⟩
      rw [hE44] at h44 hpc
      cases D with
      | true =>
       have hp:rangedB c = true:=hpc
       have hlt:=hkk.1 hp
       clear hkk hp hpc hD hE42 hE58 hE44
       go_wp2_with (first
        | (go_at_call 40;refine (hat _).mono ?_;rintro e w1 ⟨rfl,rfl⟩)
        | (go_at_call 38;refine (hdg _).mono ?_;rintro e w1 ⟨rfl,rfl⟩))
       go_round
       case rel=>exact ⟨i + 1,by omega,by go_num⟩
       case measure=>simp [intOf];omega
      | false =>
       cases E42 with
       | true =>
        have hp:rangedB c = true:=hpc
        have hlt:=hkk.1 hp
        clear hkk hp hpc hD hE42 hE58 hE44
        go_wp2_with (first
         | (go_at_call 40;refine (hat _).mono ?_;rintro e w1 ⟨rfl,rfl⟩)
         | (go_at_call 38;refine (hdg _).mono ?_;rintro e w1 ⟨rfl,rfl⟩))
        go_round
        case rel=>exact ⟨i + 1,by omega,by go_num⟩
        case measure=>simp [intOf];omega
       | false =>
        cases E58 with
        | true =>
         have hp:rangedB c = true:=hpc
         have hlt:=hkk.1 hp
         clear hkk hp hpc hD hE42 hE58 hE44
         go_wp2_with (first
          | (go_at_call 40;refine (hat _).mono ?_;rintro e w1 ⟨rfl,rfl⟩)
          | (go_at_call 38;refine (hdg _).mono ?_;rintro e w1 ⟨rfl,rfl⟩))
         go_round
         case rel=>exact ⟨i + 1,by omega,by go_num⟩
         case measure=>simp [intOf];omega
        | false =>
         cases E44 with
         | true =>
          have hp:rangedB c = true:=hpc
          have hlt:=hkk.1 hp
          clear hkk hp hpc hD hE42 hE58 hE44
          go_wp2_with (first
           | (go_at_call 40;refine (hat _).mono ?_;rintro e w1 ⟨rfl,rfl⟩)
           | (go_at_call 38;refine (hdg _).mono ?_;rintro e w1 ⟨rfl,rfl⟩))
          go_round
          case rel=>exact ⟨i + 1,by omega,by go_num⟩
          case measure=>simp [intOf];omega
         | false =>
          have hp:rangedB c = false:=hpc
          obtain rfl:=hkk.2 hp
          clear hkk hp hpc hD hE42 hE58 hE44
          go_wp2_with (first
           | (go_at_call 40;refine (hat _).mono ?_;rintro e w1 ⟨rfl,rfl⟩)
           | (go_at_call 38;refine (hdg _).mono ?_;rintro e w1 ⟨rfl,rfl⟩))
          go_ret
          refine ⟨?_,?_,Only.set _ _ _ _⟩
          · rw [X1.out]
            rfl
          · rw [X2.out]
            exact H.out.set0 _ (rest_len rangedB s)
    · have d97:decide (97 ≤ (c.toNat:Int)) = false:=decide_eq_false (by omega)
      have d122:decide ((c.toNat:Int) ≤ 122) = true:=decide_eq_true (by omega)
      have d65:decide (65 ≤ (c.toNat:Int)) = true:=decide_eq_true (by omega)
      have d90:decide ((c.toNat:Int) ≤ 90) = false:=decide_eq_false (by omega)
      have hpc:=ranged_in c
      clear hat h37 h46 hcl
      obtain ⟨D,hD⟩:∃ x,isDg c = x:=⟨_,rfl⟩
      rw [hD] at hdg hpc
      obtain ⟨E42,hE42⟩:∃ x,decide (c = 42) = x:=⟨_,rfl⟩
      rw [hE42] at h42 hpc
      obtain ⟨E58,hE58⟩:∃ x,decide (c = 58) = x:=⟨_,rfl⟩
      rw [hE58] at h58 hpc
      obtain ⟨E44,hE44⟩:∃ x,decide (c = 44) = x:=⟨_,rfl⟩
      rw [hE44] at h44 hpc
      cases D with
      | true =>
       have hp:rangedB c = true:=hpc
       have hlt:=hkk.1 hp
       clear hkk hp hpc hD hE42 hE58 hE44
       go_wp2_with (first
        | (go_at_call 40;refine (hat _).mono ?_;rintro e w1 ⟨rfl,rfl⟩)
        | (go_at_call 38;refine (hdg _).mono ?_;rintro e w1 ⟨rfl,rfl⟩))
       go_round
       case rel=>exact ⟨i + 1,by omega,by go_num⟩
       case measure=>simp [intOf];omega
      | false =>
       cases E42 with
       | true =>
        have hp:rangedB c = true:=hpc
        have hlt:=hkk.1 hp
        clear hkk hp hpc hD hE42 hE58 hE44
        go_wp2_with (first
         | (go_at_call 40;refine (hat _).mono ?_;rintro e w1 ⟨rfl,rfl⟩)
         | (go_at_call 38;refine (hdg _).mono ?_;rintro e w1 ⟨rfl,rfl⟩))
        go_round
        case rel=>exact ⟨i + 1,by omega,by go_num⟩
        case measure=>simp [intOf];omega
       | false =>
        cases E58 with
        | true =>
         have hp:rangedB c = true:=hpc
         have hlt:=hkk.1 hp
         clear hkk hp hpc hD hE42 hE58 hE44
         go_wp2_with (first
          | (go_at_call 40;refine (hat _).mono ?_;rintro e w1 ⟨rfl,rfl⟩)
          | (go_at_call 38;refine (hdg _).mono ?_;rintro e w1 ⟨rfl,rfl⟩))
         go_round
         case rel=>exact ⟨i + 1,by omega,by go_num⟩
         case measure=>simp [intOf];omega
        | false =>
         cases E44 with
         | true =>
          have hp:rangedB c = true:=hpc
          have hlt:=hkk.1 hp
          clear hkk hp hpc hD hE42 hE58 hE44
          go_wp2_with (first
           | (go_at_call 40;refine (hat _).mono ?_;rintro e w1 ⟨rfl,rfl⟩)
           | (go_at_call 38;refine (hdg _).mono ?_;rintro e w1 ⟨rfl,rfl⟩))
          go_round
          case rel=>exact ⟨i + 1,by omega,by go_num⟩
          case measure=>simp [intOf];omega
         | false =>
          have hp:rangedB c = false:=hpc
          obtain rfl:=hkk.2 hp
          clear hkk hp hpc hD hE42 hE58 hE44
          go_wp2_with (first
           | (go_at_call 40;refine (hat _).mono ?_;rintro e w1 ⟨rfl,rfl⟩)
           | (go_at_call 38;refine (hdg _).mono ?_;rintro e w1 ⟨rfl,rfl⟩))
          go_ret
          refine ⟨?_,?_,Only.set _ _ _ _⟩
          · rw [X1.out]
            rfl
          · rw [X2.out]
            exact H.out.set0 _ (rest_len rangedB s)
    · have d97:decide (97 ≤ (c.toNat:Int)) = true:=decide_eq_true (by omega)
      have d122:decide ((c.toNat:Int) ≤ 122) = true:=decide_eq_true (by omega)
      have d65:decide (65 ≤ (c.toNat:Int)) = true:=decide_eq_true (by omega)
      have d90:decide ((c.toNat:Int) ≤ 90) = false:=decide_eq_false (by omega)
      have hpc:=ranged_in c
      clear hat h37 h46 hcl
      obtain ⟨D,hD⟩:∃ x,isDg c = x:=⟨_,rfl⟩
      rw [hD] at hdg hpc
      obtain ⟨E42,hE42⟩:∃ x,decide (c = 42) = x:=⟨_,rfl⟩
      rw [hE42] at h42 hpc
      obtain ⟨E58,hE58⟩:∃ x,decide (c = 58) = x:=⟨_,rfl⟩
      rw [hE58] at h58 hpc
      obtain ⟨E44,hE44⟩:∃ x,decide (c = 44) = x:=⟨_,rfl⟩
      rw [hE44] at h44 hpc
      cases D with
      | true =>
       have hp:rangedB c = true:=hpc
       have hlt:=hkk.1 hp
       clear hkk hp hpc hD hE42 hE58 hE44
       go_wp2_with (first
        | (go_at_call 40;refine (hat _).mono ?_;rintro e w1 ⟨rfl,rfl⟩)
        | (go_at_call 38;refine (hdg _).mono ?_;rintro e w1 ⟨rfl,rfl⟩))
       go_round
       case rel=>exact ⟨i + 1,by omega,by go_num⟩
       case measure=>simp [intOf];omega
      | false =>
       cases E42 with
       | true =>
        have hp:rangedB c = true:=hpc
        have hlt:=hkk.1 hp
        clear hkk hp hpc hD hE42 hE58 hE44
        go_wp2_with (first
         | (go_at_call 40;refine (hat _).mono ?_;rintro e w1 ⟨rfl,rfl⟩)
         | (go_at_call 38;refine (hdg _).mono ?_;rintro e w1 ⟨rfl,rfl⟩))
        go_round
        case rel=>exact ⟨i + 1,by omega,by go_num⟩
        case measure=>simp [intOf];omega
       | false =>
        cases E58 with
        | true =>
         have hp:rangedB c = true:=hpc
         have hlt:=hkk.1 hp
         clear hkk hp hpc hD hE42 hE58 hE44
         go_wp2_with (first
          | (go_at_call 40;refine (hat _).mono ?_;rintro e w1 ⟨rfl,rfl⟩)
          | (go_at_call 38;refine (hdg _).mono ?_;rintro e w1 ⟨rfl,rfl⟩))
         go_round
         case rel=>exact ⟨i + 1,by omega,by go_num⟩
         case measure=>simp [intOf];omega
        | false =>
         cases E44 with
         | true =>
          have hp:rangedB c = true:=hpc
          have hlt:=hkk.1 hp
          clear hkk hp hpc hD hE42 hE58 hE44
          go_wp2_with (first
           | (go_at_call 40;refine (hat _).mono ?_;rintro e w1 ⟨rfl,rfl⟩)
           | (go_at_call 38;refine (hdg _).mono ?_;rintro e w1 ⟨rfl,rfl⟩))
          go_round
          case rel=>exact ⟨i + 1,by omega,by go_num⟩
          case measure=>simp [intOf];omega
         | false =>
          have hp:rangedB c = false:=hpc
          obtain rfl:=hkk.2 hp
          clear hkk hp hpc hD hE42 hE58 hE44
          go_wp2_with (first
           | (go_at_call 40;refine (hat _).mono ?_;rintro e w1 ⟨rfl,rfl⟩)
           | (go_at_call 38;refine (hdg _).mono ?_;rintro e w1 ⟨rfl,rfl⟩))
          go_ret
          refine ⟨?_,?_,Only.set _ _ _ _⟩
          · rw [X1.out]
            rfl
          · rw [X2.out]
            exact H.out.set0 _ (rest_len rangedB s)
    · have d97:decide (97 ≤ (c.toNat:Int)) = true:=decide_eq_true (by omega)
      have d122:decide ((c.toNat:Int) ≤ 122) = false:=decide_eq_false (by omega)
      have d65:decide (65 ≤ (c.toNat:Int)) = true:=decide_eq_true (by omega)
      have d90:decide ((c.toNat:Int) ≤ 90) = false:=decide_eq_false (by omega)
      have hpc:=ranged_in c
      clear hat h37 h46 hcl
      obtain ⟨D,hD⟩:∃ x,isDg c = x:=⟨_,rfl⟩
      rw [hD] at hdg hpc
      obtain ⟨E42,hE42⟩:∃ x,decide (c = 42) = x:=⟨_,rfl⟩
      rw [hE42] at h42 hpc
      obtain ⟨E58,hE58⟩:∃ x,decide (c = 58) = x:=⟨_,rfl⟩
      rw [hE58] at h58 hpc
      obtain ⟨E44,hE44⟩:∃ x,decide (c = 44) = x:=⟨_,rfl⟩
      rw [hE44] at h44 hpc
      cases D with
      | true =>
       have hp:rangedB c = true:=hpc
       have hlt:=hkk.1 hp
       clear hkk hp hpc hD hE42 hE58 hE44
       go_wp2_with (first
        | (go_at_call 40;refine (hat _).mono ?_;rintro e w1 ⟨rfl,rfl⟩)
        | (go_at_call 38;refine (hdg _).mono ?_;rintro e w1 ⟨rfl,rfl⟩))
       go_round
       case rel=>exact ⟨i + 1,by omega,by go_num⟩
       case measure=>simp [intOf];omega
      | false =>
       cases E42 with
       | true =>
        have hp:rangedB c = true:=hpc
        have hlt:=hkk.1 hp
        clear hkk hp hpc hD hE42 hE58 hE44
        go_wp2_with (first
         | (go_at_call 40;refine (hat _).mono ?_;rintro e w1 ⟨rfl,rfl⟩)
         | (go_at_call 38;refine (hdg _).mono ?_;rintro e w1 ⟨rfl,rfl⟩))
        go_round
        case rel=>exact ⟨i + 1,by omega,by go_num⟩
        case measure=>simp [intOf];omega
       | false =>
        cases E58 with
        | true =>
         have hp:rangedB c = true:=hpc
         have hlt:=hkk.1 hp
         clear hkk hp hpc hD hE42 hE58 hE44
         go_wp2_with (first
          | (go_at_call 40;refine (hat _).mono ?_;rintro e w1 ⟨rfl,rfl⟩)
          | (go_at_call 38;refine (hdg _).mono ?_;rintro e w1 ⟨rfl,rfl⟩))
         go_round
         case rel=>exact ⟨i + 1,by omega,by go_num⟩
         case measure=>simp [intOf];omega
        | false =>
         cases E44 with
         | true =>
          have hp:rangedB c = true:=hpc
          have hlt:=hkk.1 hp
          clear hkk hp hpc hD hE42 hE58 hE44
          go_wp2_with (first
           | (go_at_call 40;refine (hat _).mono ?_;rintro e w1 ⟨rfl,rfl⟩)
           | (go_at_call 38;refine (hdg _).mono ?_;rintro e w1 ⟨rfl,rfl⟩))
          go_round
          case rel=>exact ⟨i + 1,by omega,by go_num⟩
          case measure=>simp [intOf];omega
         | false =>
          have hp:rangedB c = false:=hpc
          obtain rfl:=hkk.2 hp
          clear hkk hp hpc hD hE42 hE58 hE44
          go_wp2_with (first
           | (go_at_call 40;refine (hat _).mono ?_;rintro e w1 ⟨rfl,rfl⟩)
           | (go_at_call 38;refine (hdg _).mono ?_;rintro e w1 ⟨rfl,rfl⟩))
          go_ret
          refine ⟨?_,?_,Only.set _ _ _ _⟩
          · rw [X1.out]
            rfl
          · rw [X2.out]
            exact H.out.set0 _ (rest_len rangedB s)
  · obtain rfl:i = s.length:=by omega
    obtain rfl:k = s.length:=by omega
    go_wp2_with fail
    go_ret
    refine ⟨?_,?_,Only.set _ _ _ _⟩
    · rw [X1.out]
      rfl
    · have hd:s.dropWhile rangedB = []:=by rw [← run_drop,← HK.out,List.drop_length]
      rw [hd]
      exact H.out.set0 [] (Nat.zero_le _)
end Go.Proofs.YtfdmdmahddjjmaaGreatDoor
