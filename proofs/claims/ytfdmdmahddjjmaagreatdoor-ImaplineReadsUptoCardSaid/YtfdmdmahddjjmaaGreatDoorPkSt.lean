/-
  Joined texts: StDate StStamp1 StOf StWide StRWide StROf StClock StSecs StSecs2 StSecs3 StNum StDig StShape StNames StParse1.
-/
import Derived.Test.YtfdmdmahddjjmaaGreatDoorProg
import Derived.Test.YtfdmdmahddjjmaaGreatDoorPkOwn
import Derived.WalkKit
import Derived.WalkSpells
import Derived.WalkLawsBesides
import Derived.Deep.QuietTactic
import Derived.BigQuiet
import Derived.LoopTactic
import Derived.Deep.LoopGhost
import Derived.Deep.DeepCutAuto
import Derived.Deep.CutBlock
import Derived.Deep.RegionHeld3
import Derived.IntWalk
import Derived.WalkSmall
import Derived.Lib.ConvBytes
import Derived.Test.YtfdmdmahddjjmaaGreatDoorShelf
set_option linter.unusedVariables false
set_option linter.unusedSimpArgs false
set_option maxRecDepth 100000
namespace Go.Proofs.YtfdmdmahddjjmaaGreatDoor.St.Date
def leap (y:Int):Bool:=decide (y % 4 = 0) && (decide (y % 100 ≠ 0) || decide (y % 400 = 0))
def lp (y:Int):Int:=if leap y then 1 else 0
def mlen (y m:Int):Int:=if m = 2 then 28 + lp y else if m = 4∨m = 6∨m = 9∨m = 11 then 30 else 31
def dby (y:Int):Int:=365 * (y - 1) + (y - 1) / 4 - (y - 1) / 100 + (y - 1) / 400 - 730119
def cum (y m:Int):Int :=
 if m ≤ 1 then 0 else if m = 2 then 31 else if m = 3 then 59 + lp y else if m = 4 then 90 + lp y else if m = 5 then 120 + lp y else if m = 6 then 151 + lp y else if m = 7 then 181 + lp y
 else if m = 8 then 212 + lp y else if m = 9 then 243 + lp y else if m = 10 then 273 + lp y else if m = 11 then 304 + lp y else if m = 12 then 334 + lp y else 365 + lp y
theorem lp_01 (y:Int):0 ≤ lp y∧lp y ≤ 1:=by unfold lp;split <;> omega
theorem lp_eq (y:Int):lp y = (y / 4 - (y - 1) / 4) - (y / 100 - (y - 1) / 100) + (y / 400 - (y - 1) / 400):=by
 unfold lp leap
 by_cases h4:y % 4 = 0 <;> by_cases h100:y % 100 = 0 <;> by_cases h400:y % 400 = 0 <;> simp [h4,h100,h400] <;> omega
theorem dby_succ (y:Int):dby (y + 1) = dby y + 365 + lp y:=by
 rw [lp_eq]
 unfold dby
 rw [show y + 1 - 1 = y by omega]
 omega
theorem dby_2000:dby 2000 = 0:=by decide
theorem dby_mono {a b:Int} (h:a ≤ b):dby a ≤ dby b:=by unfold dby;omega
theorem mlen_rng (y m:Int):28 ≤ mlen y m∧mlen y m ≤ 31:=by
 have:=lp_01 y
 unfold mlen
 (repeat' split) <;> omega
theorem cum_succ (y m:Int) (h1:1 ≤ m) (h2:m ≤ 12):cum y (m + 1) = cum y m + mlen y m:=by
 have hm:m = 1∨m = 2∨m = 3∨m = 4∨m = 5∨m = 6∨m = 7∨m = 8∨m = 9∨m = 10∨m = 11∨m = 12:=by omega
 rcases hm with rfl | rfl | rfl | rfl | rfl | rfl | rfl | rfl | rfl | rfl | rfl | rfl <;> simp [cum,mlen] <;> omega
theorem cum_13 (y:Int):cum y 13 = 365 + lp y:=by simp [cum]
theorem cum_1 (y:Int):cum y 1 = 0:=by simp [cum]
theorem cum_up (y a:Int) (h0:1 ≤ a):∀ k:Nat,a + k ≤ 13→cum y a ≤ cum y (a + k)
 | 0,_=>by simp
 | k + 1,h=>by
   have h1:=cum_up y a h0 k (by omega)
   have h2:=cum_succ y (a + k) (by omega) (by omega)
   have h3:=mlen_rng y (a + k)
   rw [show a + ((k + 1:Nat):Int) = a + k + 1 by omega,h2]
   omega
theorem cum_mono (y:Int) {a b:Int} (h0:1 ≤ a) (h:a ≤ b) (h2:b ≤ 13):cum y a ≤ cum y b:=by
 have:=cum_up y a h0 (b - a).toNat (by omega)
 rwa [show a + ((b - a).toNat:Int) = b by omega] at this
theorem cum_rng (y m:Int) (h1:1 ≤ m) (h2:m ≤ 13):0 ≤ cum y m∧cum y m ≤ 366:=by
 have a:=cum_mono y (show (1:Int) ≤ 1 by omega) h1 h2
 have b:=cum_mono y h1 h2 (show (13:Int) ≤ 13 by omega)
 have c:=lp_01 y
 rw [cum_1] at a
 rw [cum_13] at b
 omega
end Go.Proofs.YtfdmdmahddjjmaaGreatDoor.St.Date
namespace Go.Proofs.YtfdmdmahddjjmaaGreatDoor.St
open Go.RowKit Own
theorem leap_any (y:Int) (w:World) (h0:0 ≤ y) (h1:y ≤ 100000) :
  Calls Tryz.prog 158 #[.int .i64 y] w fun e w'=>e = .returned (.bool (Date.leap y))∧w = w':=by
 unfold Date.leap
 by_cases h4:y % 4 = 0
 · have e4:(y % 4 == 0) = true:=by simpa using h4
   by_cases h100:y % 100 = 0
   · have e100:(y % 100 != 0) = false:=by simpa using h100
     go_enter Tryz.func158,Tryz.ntmps158
     go_wp2
     go_ret
     exact ⟨by by_cases h400:y % 400 = 0 <;> simp [h4,h100,h400],rfl⟩
   · have e100:(y % 100 != 0) = true:=by simpa using h100
     go_enter Tryz.func158,Tryz.ntmps158
     go_wp2
     go_ret
     exact ⟨by by_cases h400:y % 400 = 0 <;> simp [h4,h100,h400],rfl⟩
 · have e4:(y % 4 == 0) = false:=by simpa using h4
   go_enter Tryz.func158,Tryz.ntmps158
   go_wp2
   go_ret
   exact ⟨by simp [h4],rfl⟩
theorem rleap_any (y:Int) (w:World) (h0:0 ≤ y) (h1:y ≤ 100000) :
  Calls Tryz.prog 140 #[.int .i64 y] w fun e w'=>e = .returned (.bool (Date.leap y))∧w = w':=by
 unfold Date.leap
 by_cases h4:y % 4 = 0
 · have e4:(y % 4 == 0) = true:=by simpa using h4
   by_cases h100:y % 100 = 0
   · have e100:(y % 100 != 0) = false:=by simpa using h100
     go_enter Tryz.func140,Tryz.ntmps140
     go_wp2
     go_ret
     exact ⟨by by_cases h400:y % 400 = 0 <;> simp [h4,h100,h400],rfl⟩
   · have e100:(y % 100 != 0) = true:=by simpa using h100
     go_enter Tryz.func140,Tryz.ntmps140
     go_wp2
     go_ret
     exact ⟨by by_cases h400:y % 400 = 0 <;> simp [h4,h100,h400],rfl⟩
 · have e4:(y % 4 == 0) = false:=by simpa using h4
   go_enter Tryz.func140,Tryz.ntmps140
   go_wp2
   by_cases h400:y % 400 = 0
   · omega
   · all_goals go_ret
     all_goals exact ⟨by simp [h4,h400],rfl⟩
theorem all_any (y:Int) (w:World) (h0:0 ≤ y) (h1:y ≤ 100000) :
  Calls Tryz.prog 159 #[.int .i64 y] w fun e w'=>e = .returned (.int .i64 (365 * y + y / 4 - y / 100 + y / 400))∧w = w':=by
 go_enter Tryz.func159,Tryz.ntmps159
 go_wp2
 go_ret
 exact ⟨rfl,rfl⟩
theorem before_any (y:Int) (w:World) (h0:1 ≤ y) (h1:y ≤ 100000) :
  Calls Tryz.prog 149 #[.int .i64 y] w fun e w'=>e = .returned (.int .i64 (Date.dby y))∧w = w':=by
 go_enter Tryz.func149,Tryz.ntmps149
 go_wp2_with (first | (go_at_call 159;refine (all_any _ _ (by omega) (by omega)).mono ?_;rintro e w1 ⟨rfl,rfl⟩))
 go_ret
 exact ⟨by unfold Date.dby;congr 2,rfl⟩
def lensA:Array Value:=#[.int .i64 31,.int .i64 28,.int .i64 31,.int .i64 30,.int .i64 31,.int .i64 30,.int .i64 31,.int .i64 31,.int .i64 30,.int .i64 31,.int .i64 30,.int .i64 31]
def Lens (w:World):Prop:=∀ j,j < 12→w.cell? ⟨3,j,none⟩ = lensA[j]?
theorem Lens.below {B:Nat} {w w':World} (h:Lens w) (hb:Below B w w') (hB:3 < B):Lens w':=fun j hj=>(hb.cell hB).trans (h j hj)
theorem length_any (y m:Int) (w:World) (hL:Lens w) (h0:0 ≤ y) (h1:y ≤ 100000) (hm1:1 ≤ m) (hm2:m ≤ 12) :
  Calls Tryz.prog 148 #[.int .i64 y,.int .i64 m] w fun e w'=>e = .returned (.int .i64 (Date.mlen y m))∧w = w':=by
 have hL2:=hid hL
 by_cases h2:m = 2
 · subst h2
   cases hl:Date.leap y with
   | true =>
    go_enter Tryz.func148,Tryz.ntmps148
    go_wp2_with (first | (go_at_call 158;refine (leap_any _ _ h0 h1).mono ?_;rintro e w1 ⟨rfl,rfl⟩))
    go_ret
    exact ⟨by simp [Date.mlen,Date.lp,hl],rfl⟩
   | false =>
    have hc:=hL2.out 1 (by omega)
    simp [lensA] at hc
    go_enter Tryz.func148,Tryz.ntmps148
    go_wp2_with (first | (go_at_call 158;refine (leap_any _ _ h0 h1).mono ?_;rintro e w1 ⟨rfl,rfl⟩))
    go_ret
    exact ⟨by simp [Date.mlen,Date.lp,hl],rfl⟩
 · have e2:(m == 2) = false:=by simpa using h2
   have hm:m = 1∨m = 3∨m = 4∨m = 5∨m = 6∨m = 7∨m = 8∨m = 9∨m = 10∨m = 11∨m = 12:=by omega
   have hc:w.cell? ⟨3,m.toNat - 1,none⟩ = some (.int .i64 (Date.mlen y m)):=by
    rw [hL2.out (m.toNat - 1) (by omega)]
    rcases hm with rfl | rfl | rfl | rfl | rfl | rfl | rfl | rfl | rfl | rfl | rfl <;> simp [lensA,Date.mlen]
   have hb:0 ≤ m - 1∧m - 1 < 12:=by omega
   clear hm
   go_enter Tryz.func148,Tryz.ntmps148
   go_wp2
   go_ret
   exact ⟨rfl,rfl⟩
theorem rdays_any (y m:Int) (w:World) (h0:0 ≤ y) (h1:y ≤ 100000) :
  Calls Tryz.prog 139 #[.int .i64 y,.int .i64 m] w fun e w'=>e = .returned (.int .i64 (Date.mlen y m))∧w = w':=by
 have t4:∀ k:Int,(m == k) = decide (m = k):=fun k=>by by_cases h:m = k <;> simp [h]
 by_cases h2:m = 2
 · subst h2
   clear t4
   cases hl:Date.leap y with
   | true =>
    go_enter Tryz.func139,Tryz.ntmps139
    go_wp2_with (first | (go_at_call 140;refine (rleap_any _ _ h0 h1).mono ?_;rintro e w1 ⟨rfl,rfl⟩))
    go_ret
    exact ⟨by simp [Date.mlen,Date.lp,hl],rfl⟩
   | false =>
    go_enter Tryz.func139,Tryz.ntmps139
    go_wp2_with (first | (go_at_call 140;refine (rleap_any _ _ h0 h1).mono ?_;rintro e w1 ⟨rfl,rfl⟩))
    go_ret
    exact ⟨by simp [Date.mlen,Date.lp,hl],rfl⟩
 · by_cases hs:m = 4∨m = 6∨m = 9∨m = 11
   · rcases hs with rfl | rfl | rfl | rfl
     all_goals
      clear t4
      go_enter Tryz.func139,Tryz.ntmps139
      go_wp2
      go_ret
      exact ⟨by simp [Date.mlen],rfl⟩
   · have e2:(m == 2) = false:=by simpa using h2
     have e4:(m == 4) = false:=by simp;omega
     have e6:(m == 6) = false:=by simp;omega
     have e9:(m == 9) = false:=by simp;omega
     have e11:(m == 11) = false:=by simp;omega
     have he:Date.mlen y m = 31:=by unfold Date.mlen;rw [if_neg h2,if_neg hs]
     clear t4 h2 hs
     go_enter Tryz.func139,Tryz.ntmps139
     go_wp2
     go_ret
     exact ⟨by rw [he];rfl,rfl⟩
end Go.Proofs.YtfdmdmahddjjmaaGreatDoor.St
namespace Go.Proofs.YtfdmdmahddjjmaaGreatDoor.St
open Go.RowKit Own
def time7 (y m d h mi s wd:Int):Array Value:=#[.int .i64 y,.int .i64 m,.int .i64 d,.int .i64 h,.int .i64 mi,.int .i64 s,.int .i64 wd]
end Go.Proofs.YtfdmdmahddjjmaaGreatDoor.St
namespace Go.Proofs.YtfdmdmahddjjmaaGreatDoor.St
open Go.RowKit Own
end Go.Proofs.YtfdmdmahddjjmaaGreatDoor.St
namespace Go.Proofs.YtfdmdmahddjjmaaGreatDoor.St
open Go.RowKit Own
end Go.Proofs.YtfdmdmahddjjmaaGreatDoor.St
namespace Go.Proofs.YtfdmdmahddjjmaaGreatDoor.St
open Go.RowKit Own
end Go.Proofs.YtfdmdmahddjjmaaGreatDoor.St
namespace Go.Proofs.YtfdmdmahddjjmaaGreatDoor.St
open Go.RowKit Own
attribute [local go_sem] str_size Text.lastL_len ByteArray.size_append
def clockL (h mi s:Int):List UInt8:=Text.lastL 2 h.toNat ++ [58] ++ Text.lastL 2 mi.toNat ++ [58] ++ Text.lastL 2 s.toNat ++ [32,43,48,48,48,48]
end Go.Proofs.YtfdmdmahddjjmaaGreatDoor.St
namespace Go.Proofs.YtfdmdmahddjjmaaGreatDoor.St
open Go.RowKit Own
theorem in_any (n a b:Int) (w:World) :
  Calls Tryz.prog 147 #[.int .i64 n,.int .i64 a,.int .i64 b] w fun e w'=>e = .returned (.bool (decide (a ≤ n) && decide (n ≤ b)))∧w = w':=by
 by_cases h:a ≤ n
 · have e1:decide (a ≤ n) = true:=decide_eq_true h
   go_enter Tryz.func147,Tryz.ntmps147
   go_wp2
   go_ret
   exact ⟨by simp [h],rfl⟩
 · have e1:decide (a ≤ n) = false:=decide_eq_false h
   go_enter Tryz.func147,Tryz.ntmps147
   go_wp2
   go_ret
   exact ⟨by simp [h],rfl⟩
def Valid (y m d h mi s:Int):Prop:=1999 ≤ y∧y ≤ 2137∧1 ≤ m∧m ≤ 12∧1 ≤ d∧d ≤ Date.mlen y m∧0 ≤ h∧h ≤ 23∧0 ≤ mi∧mi ≤ 59∧0 ≤ s∧s ≤ 59
instance (y m d h mi s:Int):Decidable (Valid y m d h mi s):=by unfold Valid;infer_instance
def secsOf (y m d h mi s:Int):Int:=(Date.dby y + d - 1 + Date.cum y m) * 86400 + h * 3600 + mi * 60 + s
set_option maxHeartbeats 4000000 in
theorem seconds_bad (y m d h mi s wd:Int) (w:World) (hL:Lens w) (hg:3 < w.heap.size) (hv:¬ Valid y m d h mi s) :
  Calls Tryz.prog 127 #[.agg (time7 y m d h mi s wd)] w fun e w'=>e = .returned (.tuple #[.int .i64 0,.bool false])∧Below w.heap.size w w':=by
 unfold time7
 have fin:∀ (o:Obj) n,Below w.heap.size w ((w.alloc o).drewN n):=fun o n=>below_drewN ((Below.refl _ _).alloc (Nat.le_refl _) o) n
 have hLA:∀ (o:Obj) n,Lens ((w.alloc o).drewN n):=fun o n=>hL.below (fin o n) hg
 unfold Valid at hv
 by_cases c0:1999 ≤ y∧y ≤ 2137
 · have e0:(decide (1999 ≤ y) && decide (y ≤ 2137)) = true:=by simp;omega
   by_cases c1:1 ≤ m∧m ≤ 12
   · have e1:(decide (1 ≤ m) && decide (m ≤ 12)) = true:=by simp;omega
     by_cases c2:1 ≤ d∧d ≤ Date.mlen y m
     · have e2:(decide (1 ≤ d) && decide (d ≤ Date.mlen y m)) = true:=by simp;omega
       by_cases c3:0 ≤ h∧h ≤ 23
       · have e3:(decide (0 ≤ h) && decide (h ≤ 23)) = true:=by simp;omega
         by_cases c4:0 ≤ mi∧mi ≤ 59
         · have e4:(decide (0 ≤ mi) && decide (mi ≤ 59)) = true:=by simp;omega
           by_cases c5:0 ≤ s∧s ≤ 59
           · have e5:(decide (0 ≤ s) && decide (s ≤ 59)) = true:=by simp;omega
             exact absurd (by omega) hv
           · have e5:(decide (0 ≤ s) && decide (s ≤ 59)) = false:=by simp;omega
             clear hv
             have yr:0 ≤ y∧y ≤ 100000:=by omega
             go_enter Tryz.func127,Tryz.ntmps127
             go_wp2_with fail
             go_quiet (first
              | (go_at_call 147;exact Calls.quiet_of_same ((in_any _ _ _ _).mono fun _ _ ⟨he,hw⟩=>⟨he,hw.symm⟩))
              | (go_at_call 148;exact Calls.quiet_of_same ((length_any _ _ _ (hLA _ _) yr.1 yr.2 c1.1 c1.2).mono fun _ _ ⟨he,hw⟩=>⟨he,hw.symm⟩)))
             go_wp2
             exact bodyPost_ret (v:=.tuple #[.int .i64 0,.bool false]) (by simp [results,Tryz.results127,go_sem]) rfl ⟨rfl,fin _ _⟩
         · have e4:(decide (0 ≤ mi) && decide (mi ≤ 59)) = false:=by simp;omega
           clear hv
           have yr:0 ≤ y∧y ≤ 100000:=by omega
           go_enter Tryz.func127,Tryz.ntmps127
           go_wp2_with fail
           go_quiet (first
            | (go_at_call 147;exact Calls.quiet_of_same ((in_any _ _ _ _).mono fun _ _ ⟨he,hw⟩=>⟨he,hw.symm⟩))
            | (go_at_call 148;exact Calls.quiet_of_same ((length_any _ _ _ (hLA _ _) yr.1 yr.2 c1.1 c1.2).mono fun _ _ ⟨he,hw⟩=>⟨he,hw.symm⟩)))
           go_wp2
           exact bodyPost_ret (v:=.tuple #[.int .i64 0,.bool false]) (by simp [results,Tryz.results127,go_sem]) rfl ⟨rfl,fin _ _⟩
       · have e3:(decide (0 ≤ h) && decide (h ≤ 23)) = false:=by simp;omega
         clear hv
         have yr:0 ≤ y∧y ≤ 100000:=by omega
         go_enter Tryz.func127,Tryz.ntmps127
         go_wp2_with fail
         go_quiet (first
          | (go_at_call 147;exact Calls.quiet_of_same ((in_any _ _ _ _).mono fun _ _ ⟨he,hw⟩=>⟨he,hw.symm⟩))
          | (go_at_call 148;exact Calls.quiet_of_same ((length_any _ _ _ (hLA _ _) yr.1 yr.2 c1.1 c1.2).mono fun _ _ ⟨he,hw⟩=>⟨he,hw.symm⟩)))
         go_wp2
         exact bodyPost_ret (v:=.tuple #[.int .i64 0,.bool false]) (by simp [results,Tryz.results127,go_sem]) rfl ⟨rfl,fin _ _⟩
     · have e2:(decide (1 ≤ d) && decide (d ≤ Date.mlen y m)) = false:=by simp;omega
       clear hv
       have yr:0 ≤ y∧y ≤ 100000:=by omega
       go_enter Tryz.func127,Tryz.ntmps127
       go_wp2_with fail
       go_quiet (first
        | (go_at_call 147;exact Calls.quiet_of_same ((in_any _ _ _ _).mono fun _ _ ⟨he,hw⟩=>⟨he,hw.symm⟩))
        | (go_at_call 148;exact Calls.quiet_of_same ((length_any _ _ _ (hLA _ _) yr.1 yr.2 c1.1 c1.2).mono fun _ _ ⟨he,hw⟩=>⟨he,hw.symm⟩)))
       go_wp2
       exact bodyPost_ret (v:=.tuple #[.int .i64 0,.bool false]) (by simp [results,Tryz.results127,go_sem]) rfl ⟨rfl,fin _ _⟩
   · have e1:(decide (1 ≤ m) && decide (m ≤ 12)) = false:=by simp;omega
     clear hv
     go_enter Tryz.func127,Tryz.ntmps127
     go_wp2_with fail
     go_quiet ((go_at_call 147;exact Calls.quiet_of_same ((in_any _ _ _ _).mono fun _ _ ⟨he,hw⟩=>⟨he,hw.symm⟩)))
     go_wp2
     exact bodyPost_ret (v:=.tuple #[.int .i64 0,.bool false]) (by simp [results,Tryz.results127,go_sem]) rfl ⟨rfl,fin _ _⟩
 · have e0:(decide (1999 ≤ y) && decide (y ≤ 2137)) = false:=by simp;omega
   clear hv
   go_enter Tryz.func127,Tryz.ntmps127
   go_wp2_with fail
   go_quiet ((go_at_call 147;exact Calls.quiet_of_same ((in_any _ _ _ _).mono fun _ _ ⟨he,hw⟩=>⟨he,hw.symm⟩)))
   go_wp2
   exact bodyPost_ret (v:=.tuple #[.int .i64 0,.bool false]) (by simp [results,Tryz.results127,go_sem]) rfl ⟨rfl,fin _ _⟩
end Go.Proofs.YtfdmdmahddjjmaaGreatDoor.St
namespace Go.Proofs.YtfdmdmahddjjmaaGreatDoor.St
open Go.RowKit Own
set_option maxHeartbeats 4000000 in
theorem seconds_ok (y m d h mi s wd:Int) (w:World) (hL:Lens w) (hg:3 < w.heap.size) (hv:Valid y m d h mi s) :
  Calls Tryz.prog 127 #[.agg (time7 y m d h mi s wd)] w fun e w'=>e = .returned (.tuple #[.int .i64 (secsOf y m d h mi s),.bool true])∧Below w.heap.size w w':=by
 unfold time7
 have fin:∀ (o:Obj) n,Below w.heap.size w ((w.alloc o).drewN n):=fun o n=>below_drewN ((Below.refl _ _).alloc (Nat.le_refl _) o) n
 have hLA:∀ (o:Obj) n,Lens ((w.alloc o).drewN n):=fun o n=>hL.below (fin o n) hg
 have hblk:∀ (o:Obj) n,((w.alloc o).drewN n).heap[w.heap.size]? = some o:=fun o n=>heap_alloc_new w o
 obtain ⟨v0,v1,v2,v3,v4,v5,v6,v7,v8,v9,v10,v11⟩:=hv
 have e0:(decide (1999 ≤ y) && decide (y ≤ 2137)) = true:=by simp;omega
 have e1:(decide (1 ≤ m) && decide (m ≤ 12)) = true:=by simp;omega
 have e2:(decide (1 ≤ d) && decide (d ≤ Date.mlen y m)) = true:=by simp;omega
 have e3:(decide (0 ≤ h) && decide (h ≤ 23)) = true:=by simp;omega
 have e4:(decide (0 ≤ mi) && decide (mi ≤ 59)) = true:=by simp;omega
 have e5:(decide (0 ≤ s) && decide (s ≤ 59)) = true:=by simp;omega
 have hml:=Date.mlen_rng y m
 have hdb1:=Date.dby_mono (show 1999 ≤ y by omega)
 have hdb2:=Date.dby_mono (show y ≤ 2137 by omega)
 rw [show Date.dby 1999 = -365 by decide] at hdb1
 rw [show Date.dby 2137 = 50039 by decide] at hdb2
 have yr:0 ≤ y∧y ≤ 100000:=by omega
 have yr1:1 ≤ y∧y ≤ 100000:=by omega
 have mr:1 ≤ m∧m ≤ 12:=by omega
 have x1:IntKind.i64.wrap (Date.dby y + d) = Date.dby y + d:=IntWalk.i64_in _ (by omega)
 have x2:IntKind.i64.wrap (Date.dby y + d - 1) = Date.dby y + d - 1:=IntWalk.i64_in _ (by omega)
 go_enter Tryz.func127,Tryz.ntmps127
 go_upto_region 2 with fail
 go_cut [51] (fun v51 wx=>v51 = .bool false∧wx.heap[w.heap.size]? = some (.cells #[.int .i64 y,.int .i64 m,.int .i64 d,.int .i64 h,.int .i64 mi,.int .i64 s,.int .i64 wd] 107 (0,0))∧Below w.heap.size w wx)
 case first =>
  go_quiet (first
   | (go_at_call 147;exact Calls.quiet_of_same ((in_any _ _ _ _).mono fun _ _ ⟨he,hw⟩=>⟨he,hw.symm⟩))
   | (go_at_call 148;exact Calls.quiet_of_same ((length_any _ _ _ (hLA _ _) yr.1 yr.2 mr.1 mr.2).mono fun _ _ ⟨he,hw⟩=>⟨he,hw.symm⟩)))
  go_wp2
  go_meet
  case rel=>exact ⟨rfl,hblk _ _,fin _ _⟩
 case rest =>
 clear e0 e1 e2 e3 e4 e5 fin hLA hblk
 obtain ⟨rfl,hb2,hbl2⟩:=hcut
 obtain ⟨w2,hw2⟩:∃ w2:World,w2 = wc:=⟨_,rfl⟩
 rw [← hw2] at hb2 hbl2
 rw [← hw2]
 clear hw2
 have z0:=cells_at hb2 0
 have z2:=cells_at hb2 2
 have HB2:=hid hb2
 have HBL2:=hid hbl2
 clear hb2 hbl2
 go_upto_region 4 with fail
 go_cut [5] (fun v5 wx=>v5 = .int .i64 (Date.dby y + d - 1)∧wx.heap[w.heap.size]? = some (.cells #[.int .i64 y,.int .i64 m,.int .i64 d,.int .i64 h,.int .i64 mi,.int .i64 s,.int .i64 wd] 107 (0,0))∧Below w.heap.size w wx)
 case first =>
  go_quiet ((go_at_call 149;exact Calls.quiet_of_same ((before_any _ _ yr1.1 yr1.2).mono fun _ _ ⟨he,hw⟩=>⟨he,hw.symm⟩)))
  go_step
  go_step
  go_meet
  case rel=>exact ⟨rfl,HB2.out,below_drewN HBL2.out _⟩
 case rest =>
 obtain ⟨rfl,hb3,hbl3⟩:=hcut
 obtain ⟨w3,hw3⟩:∃ w3:World,w3 = wc:=⟨_,rfl⟩
 rw [← hw3] at hb3 hbl3
 rw [← hw3]
 clear hw3
 have HB3:=hid hb3
 have HBL3:=hid hbl3
 clear hb3 hbl3 x1 x2 z0 z2
 go_wp2_with fail
 go_loopw [5,6] (fun v5 v6 wr=>∃ k:Int,1 ≤ k∧k ≤ m∧v5 = .int .i64 (Date.dby y + d - 1 + Date.cum y k)∧v6 = .int .i64 k∧wr.heap[w.heap.size]? = some (.cells #[.int .i64 y,.int .i64 m,.int .i64 d,.int .i64 h,.int .i64 mi,.int .i64 s,.int .i64 wd] 107 (0,0))∧Below w.heap.size w wr) (fun _ v6 _=>(m - intOf v6).toNat)
 case atStart=>exact ⟨1,by omega,mr.1,by rw [Date.cum_1];go_num,rfl,HB3.out,HBL3.out⟩
 case round =>
  obtain ⟨k,hk1,hk2,rfl,rfl,hB,hbel⟩:=hrel
  have c0:=cells_at hB 0
  have c1:=cells_at hB 1
  have c3:=cells_at hB 3
  have c4:=cells_at hB 4
  have c5:=cells_at hB 5
  have hLr:=hL.below hbel hg
  have HB:=hid hB
  have HBE:=hid hbel
  have HLR:=hid hLr
  have hcr:=Date.cum_rng y k hk1 (by omega)
  have hcs:=Date.cum_succ y k hk1 (by omega)
  have hmk:=Date.mlen_rng y k
  have HCS:=hid hcs
  clear hB hbel hLr hcs
  by_cases hkm:k < m
  · have t1:decide (k < m) = true:=decide_eq_true hkm
    have HK:=hid hkm
    clear hkm
    go_wp2_with (first | (go_at_call 148;refine (length_any _ _ _ HLR.out yr.1 yr.2 hk1 (by omega)).mono ?_;rintro e w1 ⟨rfl,rfl⟩))
    go_roundw
    case rel=>exact ⟨k + 1,by omega,by have:=HK.out;omega,by rw [HCS.out];go_num,rfl,HB.out,HBE.out⟩
    case measure=>have:=HK.out;simp [intOf];omega
  · have t1:decide (k < m) = false:=decide_eq_false hkm
    have hkm':k = m:=by omega
    clear hkm
    subst hkm'
    go_wp2
    exact bodyPost_ret (v:=.tuple #[.int .i64 (secsOf y k d h mi s),.bool true]) (by simp [results,Tryz.results127,go_sem,secsOf]) rfl ⟨rfl,HBE.out⟩
end Go.Proofs.YtfdmdmahddjjmaaGreatDoor.St
namespace Go.Proofs.YtfdmdmahddjjmaaGreatDoor.St
open Go.RowKit Own
def momP (n:Int) (ok:Bool):Int × Int:=if ok = true∧0 ≤ n∧n < 4294967296 then (n,0) else (0,80)
def momOf (n:Int) (ok:Bool):Value:=.tuple #[.int .i64 (momP n ok).1,.int .i64 (momP n ok).2]
theorem moment_any (n:Int) (ok:Bool) (w:World) :
  Calls Tryz.prog 128 #[.int .i64 n,.bool ok] w fun e w'=>e = .returned (momOf n ok)∧w = w':=by
 cases ok with
 | false =>
  go_enter Tryz.func128,Tryz.ntmps128
  go_wp2
  exact bodyPost_ret (v:=.tuple #[.int .i64 0,.int .i64 80]) (by simp [results,Tryz.results128,go_sem]) rfl ⟨by simp [momOf,momP],rfl⟩
 | true =>
  by_cases h0:n < 0
  · have e0:decide (n < 0) = true:=decide_eq_true h0
    have hm:momP n true = (0,80):=by unfold momP;rw [if_neg (by omega)]
    go_enter Tryz.func128,Tryz.ntmps128
    go_wp2
    exact bodyPost_ret (v:=.tuple #[.int .i64 0,.int .i64 80]) (by simp [results,Tryz.results128,go_sem]) rfl ⟨by simp [momOf,hm],rfl⟩
  · have e0:decide (n < 0) = false:=decide_eq_false h0
    by_cases h1:4294967296 ≤ n
    · have e1:decide (4294967296 ≤ n) = true:=decide_eq_true h1
      have hm:momP n true = (0,80):=by unfold momP;rw [if_neg (by omega)]
      go_enter Tryz.func128,Tryz.ntmps128
      go_wp2
      exact bodyPost_ret (v:=.tuple #[.int .i64 0,.int .i64 80]) (by simp [results,Tryz.results128,go_sem]) rfl ⟨by simp [momOf,hm],rfl⟩
    · have e1:decide (4294967296 ≤ n) = false:=decide_eq_false h1
      have hm:momP n true = (n,0):=by unfold momP;rw [if_pos (by simp;omega)]
      go_enter Tryz.func128,Tryz.ntmps128
      go_wp2
      exact bodyPost_ret (v:=.tuple #[.int .i64 n,.int .i64 0]) (by simp [results,Tryz.results128,go_sem]) rfl ⟨by simp [momOf,hm],rfl⟩
def secPair (y m d h mi s:Int):Int × Bool:=if Valid y m d h mi s then (secsOf y m d h mi s,true) else (0,false)
theorem seconds_any (y m d h mi s wd:Int) (w:World) (hL:Lens w) (hg:3 < w.heap.size) :
  Calls Tryz.prog 127 #[.agg (time7 y m d h mi s wd)] w fun e w'=>e = .returned (.tuple #[.int .i64 (secPair y m d h mi s).1,.bool (secPair y m d h mi s).2])∧Below w.heap.size w w':=by
 unfold secPair
 by_cases hv:Valid y m d h mi s
 · rw [if_pos hv];exact seconds_ok y m d h mi s wd w hL hg hv
 · rw [if_neg hv];exact seconds_bad y m d h mi s wd w hL hg hv
end Go.Proofs.YtfdmdmahddjjmaaGreatDoor.St
namespace Go.Proofs.YtfdmdmahddjjmaaGreatDoor.St
open Go.RowKit Own
def numI:Int→List UInt8→Int
 | n,[]=>n
 | n,c :: l=>numI (10 * n + ((c.toNat:Int) - 48)) l
def isDig (c:UInt8):Prop:=48 ≤ c.toNat∧c.toNat ≤ 57
instance (c:UInt8):Decidable (isDig c):=by unfold isDig;infer_instance
theorem number_any (l:List UInt8) (w:World) (hl:l.length ≤ 8) (hd:∀ c ∈ l,isDig c) :
  Calls Tryz.prog 126 #[.string (str l)] w fun e w'=>e = .returned (.int .i64 (numI 0 l))∧w = w':=by
 have hsz:=str_size l
 have HD:=hid hd
 clear hd
 go_enter Tryz.func126,Tryz.ntmps126
 go_wp2_with fail
 go_loopw [3,7] (fun v3 v7 wr=>∃ i n:Nat,i ≤ l.length∧v3 = .int .i64 n∧v7 = .int .i64 i∧n < 10 ^ i∧numI n (l.drop i) = numI 0 l∧w = wr) (fun _ v7 _=>l.length - (intOf v7).toNat)
 case atStart=>exact ⟨0,0,Nat.zero_le _,rfl,rfl,by simp,by simp,rfl⟩
 case round =>
  obtain ⟨i,n,hi,rfl,rfl,hn1,hs,rfl⟩:=hrel
  have hp:=Nat.pow_le_pow_right (show 0 < 10 by omega) (show i ≤ 8 by omega)
  have hn:n < 100000000:=by simpa using Nat.lt_of_lt_of_le hn1 hp
  by_cases hil:i < l.length
  · have e1:decide ((i:Int) < l.length) = true:=decide_eq_true (by omega)
    have hdi:=HD.out _ (List.getElem_mem hil)
    unfold isDig at hdi
    obtain ⟨c,hc⟩:∃ c,c = l[i]:=⟨_,rfl⟩
    have hix:∀ h,(str l)[i]'h = c:=by intro h;rw [hc];rfl
    have HS:numI (10 * n + ((l[i].toNat:Int) - 48)) (l.drop (i + 1)) = numI 0 l:=by
     rw [← hs,List.drop_eq_getElem_cons hil];rfl
    have hp1:10 * n + (l[i].toNat - 48) < 10 ^ (i + 1):=by rw [Nat.pow_succ];omega
    rw [← hc] at hdi HS hp1
    clear hc
    have HS1:=hid HS
    have HP1:=hid hp1
    clear HS hs hp1 hn1 hp
    have hcast:(((c.toNat - 48:Nat):Int)) = (c.toNat:Int) - 48:=by omega
    have hcm:((c.toNat:Int) - 48) % 256 = (c.toNat:Int) - 48:=by omega
    go_wp2
    go_roundw
    case rel =>
     refine ⟨i + 1,10 * n + (c.toNat - 48),by omega,?_,by simp,HP1.out,?_,by trivial⟩
     · simp [hix,hcm];omega
     · have:=HS1.out
       rw [← this];congr 1;omega
    case measure=>simp [intOf];omega
  · have e1:decide ((i:Int) < l.length) = false:=decide_eq_false (by omega)
    have:i = l.length:=by omega
    subst this
    have hs':(n:Int) = numI 0 l:=by simpa [numI] using hs
    go_wp2
    go_ret
    exact ⟨by simp [hs'],rfl⟩
end Go.Proofs.YtfdmdmahddjjmaaGreatDoor.St
namespace Go.Proofs.YtfdmdmahddjjmaaGreatDoor.St
open Go.RowKit Own
def digB (l:List UInt8):Bool:=decide (∀ c ∈ l,isDig c)
def digN (l:List UInt8):Int:=if digB l then numI 0 l else 0
theorem rdigits_any (l:List UInt8) (w:World) (hl:l.length ≤ 8) :
  Calls Tryz.prog 108 #[.string (str l)] w fun e w'=>e = .returned (.tuple #[.int .i64 (digN l),.bool (digB l)])∧w = w':=by
 have hsz:=str_size l
 go_enter Tryz.func108,Tryz.ntmps108
 go_wp2_with fail
 go_loopw [4,5] (fun v4 v5 wr=>∃ i n:Nat,i ≤ l.length∧v4 = .int .i64 n∧v5 = .int .i64 i∧n < 10 ^ i∧numI n (l.drop i) = numI 0 l∧(∀ c ∈ l.take i,isDig c)∧w = wr) (fun _ v5 _=>l.length - (intOf v5).toNat)
 case atStart=>exact ⟨0,0,Nat.zero_le _,rfl,rfl,by simp,by simp,by simp,rfl⟩
 case round =>
  obtain ⟨i,n,hi,rfl,rfl,hn1,hs,hall,rfl⟩:=hrel
  have hp:=Nat.pow_le_pow_right (show 0 < 10 by omega) (show i ≤ 8 by omega)
  have hn:n < 100000000:=by simpa using Nat.lt_of_lt_of_le hn1 hp
  by_cases hil:i < l.length
  · have e1:decide ((i:Int) < l.length) = true:=decide_eq_true (by omega)
    obtain ⟨c,hc⟩:∃ c,c = l[i]:=⟨_,rfl⟩
    have hix:∀ h,(str l)[i]'h = c:=by intro h;rw [hc];rfl
    have hmem:c ∈ l:=by rw [hc];exact List.getElem_mem hil
    by_cases hd:isDig c
    · have HS:numI (10 * n + ((c.toNat:Int) - 48)) (l.drop (i + 1)) = numI 0 l:=by
        rw [← hs,List.drop_eq_getElem_cons hil,← hc];rfl
      have hall1:∀ c ∈ l.take (i + 1),isDig c:=by
       rw [List.take_succ_eq_append_getElem hil]
       intro x hx
       rcases List.mem_append.mp hx with h | h
       · exact hall x h
       · rw [List.mem_singleton.mp h,← hc];exact hd
      have hdi:=hd
      unfold isDig at hdi
      have hp1:10 * n + (c.toNat - 48) < 10 ^ (i + 1):=by rw [Nat.pow_succ];omega
      have HA:=hid hall1
      have HS1:=hid HS
      have HP1:=hid hp1
      clear HS hs hp1 hn1 hp hall1 hall hmem hc hd
      have hcm:((c.toNat:Int) - 48) % 256 = (c.toNat:Int) - 48:=by omega
      have e2:decide ((c.toNat:Int) < 48) = false:=decide_eq_false (by omega)
      have e3:decide (57 < (c.toNat:Int)) = false:=decide_eq_false (by omega)
      go_wp2
      go_roundw
      case rel =>
       refine ⟨i + 1,10 * n + (c.toNat - 48),by omega,?_,by simp,HP1.out,?_,HA.out,by trivial⟩
       · simp [hix,hcm];omega
       · have:=HS1.out
         rw [← this];congr 1;omega
      case measure=>simp [intOf];omega
    · have hB:digB l = false:=decide_eq_false (fun h=>hd (h c hmem))
      have hN:digN l = 0:=by simp [digN,hB]
      clear hall hs hp hn1 hmem hc
      by_cases h48:c.toNat < 48
      · have e2:decide ((c.toNat:Int) < 48) = true:=decide_eq_true (by omega)
        clear hd
        go_wp2
        refine bodyPost_ret (v:=.tuple #[.int .i64 (digN l),.bool (digB l)]) (by simp [results,Tryz.results108,go_sem,hB,hN]) rfl ⟨rfl,rfl⟩
      · have e2:decide ((c.toNat:Int) < 48) = false:=decide_eq_false (by omega)
        have e3:decide (57 < (c.toNat:Int)) = true:=by
         unfold isDig at hd;exact decide_eq_true (by omega)
        clear hd
        go_wp2
        refine bodyPost_ret (v:=.tuple #[.int .i64 (digN l),.bool (digB l)]) (by simp [results,Tryz.results108,go_sem,hB,hN]) rfl ⟨rfl,rfl⟩
  · have e1:decide ((i:Int) < l.length) = false:=decide_eq_false (by omega)
    have:i = l.length:=by omega
    subst this
    have hB:digB l = true:=decide_eq_true (by simpa using hall)
    have hs':(n:Int) = numI 0 l:=by simpa [numI] using hs
    have hN:digN l = n:=by simp [digN,hB,hs']
    clear hall hs hs'
    go_wp2
    refine bodyPost_ret (v:=.tuple #[.int .i64 (digN l),.bool (digB l)]) (by simp [results,Tryz.results108,go_sem,hB,hN]) rfl ⟨rfl,rfl⟩
end Go.Proofs.YtfdmdmahddjjmaaGreatDoor.St
namespace Go.Proofs.YtfdmdmahddjjmaaGreatDoor.St
open Go.RowKit Own
theorem free_below {w:World} {g:Nat} {cs:Array Value} {t:TypeId} {f1 f2:Nat} (h:w.heap[g]? = some (.cells cs t (f1,f2))) (j:Nat) (hj:j < f1):w.frozen? ⟨g,j,none⟩ = false:=by
 simp [World.frozen?,h];omega
def shB (i:Nat) (c:UInt8):UInt8:=if isDig c then 57 else if i = 21∧c.toNat = 45 then 43 else c
def shL (l:List UInt8):List UInt8:=l.mapIdx shB
def shMix (i:Nat) (l:List UInt8):List UInt8:=(shL l).take i ++ l.drop i
theorem shL_len (l:List UInt8):(shL l).length = l.length:=by simp [shL]
theorem shMix_len (i:Nat) (l:List UInt8):(shMix i l).length = l.length:=by simp [shMix,shL_len];omega
theorem shMix_zero (l:List UInt8):shMix 0 l = l:=by simp [shMix]
theorem shMix_all (l:List UInt8):shMix l.length l = shL l:=by
 have:=shL_len l
 simp [shMix,← this]
theorem shMix_at (i:Nat) (l:List UInt8) (h:i < l.length):(shMix i l)[i]? = some l[i]:=by
 have:=shL_len l
 simp [shMix,List.getElem?_append,this,h,Nat.le_of_lt h]
theorem shMix_set (i:Nat) (l:List UInt8) (h:i < l.length):(shMix i l).set i (shB i l[i]) = shMix (i + 1) l:=by
 apply List.ext_getElem?
 intro k
 have h1:=shL_len l
 by_cases hk:k = i
 · subst hk
   simp [shMix,shMix_len,List.getElem?_set,List.getElem?_append,List.getElem?_take,h1,h,Nat.le_of_lt h,shL]
   omega
 · simp only [List.getElem?_set,Ne.symm hk,if_false,shMix,List.getElem?_append,List.length_take,h1,List.getElem?_drop,List.getElem?_take]
   rcases Nat.lt_or_ge k i with c | c
   · simp [Nat.min_eq_left (Nat.le_of_lt h),c,Nat.min_eq_left (show i + 1 ≤ l.length by omega),show k < i + 1 by omega]
   · have:¬ k < i + 1:=by omega
     simp [Nat.min_eq_left (Nat.le_of_lt h),Nat.not_lt.mpr c,Nat.min_eq_left (show i + 1 ≤ l.length by omega),this]
     congr 1;omega
def shCells (i:Nat) (l:List UInt8) (rest:List Value):Array Value:=(bv (shMix i l) ++ rest).toArray
theorem shCells_at (i:Nat) (l:List UInt8) (rest:List Value) (h:i < l.length):(shCells i l rest)[i]? = some (.int .u8 l[i].toNat):=by
 have h2:=shMix_len i l
 have h3:=shMix_at i l h
 simp only [shCells,List.getElem?_toArray]
 rw [List.getElem?_append_left (by rw [bv_len];omega)]
 simp [bv,h3]
theorem shCells_set (i:Nat) (l:List UInt8) (rest:List Value) (h:i < l.length):(shCells i l rest).setIfInBounds i (.int .u8 (shB i l[i]).toNat) = shCells (i + 1) l rest:=by
 have h2:=shMix_len i l
 unfold shCells
 rw [List.setIfInBounds_toArray]
 congr 1
 rw [List.set_append_left _ _ (by rw [bv_len];omega),← shMix_set i l h]
 simp [bv,List.map_set]
theorem shCells_keep (i:Nat) (l:List UInt8) (rest:List Value) (h:i < l.length) (hk:shB i l[i] = l[i]):shCells i l rest = shCells (i + 1) l rest:=by
 have h2:=shMix_len i l
 unfold shCells
 congr 2
 rw [← shMix_set i l h,hk]
 congr 1
 symm
 apply List.ext_getElem?
 intro k
 rw [List.getElem?_set]
 split
 · rename_i e;subst e;rw [shMix_at i l h];simp [h2,h]
 · rfl
theorem shape_any (l:List UInt8) (w:World) (hl:l.length ≤ 64) :
  Calls Tryz.prog 125 #[.string (str l)] w fun e w'=>e = .returned (.string (str (shL l)))∧Below w.heap.size w w':=by
 have hsz:=str_size l
 have cv:=Lib.run_convert_string_bytes (P:=Tryz.prog) w 9 28 5 (str l) Tryz.underlying9 Tryz.underlying28 Tryz.underlying5
 go_enter Tryz.func125,Tryz.ntmps125
 go_wp2_with fail
 have hb1:=Lib.bytesWorld_at_new w 5 (str l)
 have hcs:Lib.bytesCells w 5 (str l) = shCells 0 l (List.replicate (grownCap w (str l).size 0 5 - (str l).size) (.int .u8 0)):=by
  apply Array.ext'
  simp [Lib.bytesCells,shCells,shMix_zero,bv,str]
 have hf:∃ f,(Lib.bytesCells w 5 (str l)).size = f∧l.length ≤ f:=⟨_,rfl,by rw [hcs];simp [shCells,bv_len,shMix_len]⟩
 obtain ⟨f,hf,hlf⟩:=hf
 rw [hf] at hb1
 have L1:Below w.heap.size w (Lib.bytesWorld w 5 (str l)):=⟨rfl,rfl,rfl,by rw [Lib.bytesWorld_size];omega,fun k hk=>Lib.bytesWorld_at_old _ _ _ k hk⟩
 generalize List.replicate (grownCap w (str l).size 0 5 - (str l).size) (Value.int .u8 0) = rest at hcs
 rw [hcs] at hb1
 have HB1:=hid hb1
 have HL1:=hid L1
 clear hb1 L1 hf hcs cv
 go_loopw [10] (fun v10 wr=>∃ i:Nat,i ≤ l.length∧v10 = .int .i64 i∧wr.heap[w.heap.size]? = some (.cells (shCells i l rest) 5 (f,f + 1))∧Below w.heap.size w wr) (fun v10 _=>l.length - (intOf v10).toNat)
 case atStart=>exact ⟨0,Nat.zero_le _,rfl,HB1.out,HL1.out⟩
 case round =>
  obtain ⟨i,him,rfl,hB,hbel⟩:=hrel
  have HB:=hid hB
  have HBE:=hid hbel
  clear hB hbel
  by_cases hil:i < l.length
  · have e1:decide ((i:Int) < l.length) = true:=decide_eq_true (by omega)
    obtain ⟨c,hc⟩:∃ c,c = l[i]:=⟨_,rfl⟩
    have hcell:wr.cell? ⟨w.heap.size,i,none⟩ = some (.int .u8 c.toNat):=by
     rw [cells_at HB.out,shCells_at i l rest hil,hc]
    have hf:=free_below HB.out i (by omega)
    have hset:=shCells_set i l rest hil
    have hkeep:=shCells_keep i l rest hil
    rw [← hc] at hset hkeep
    have HS:=hid hset
    have HK:=hid hkeep
    clear hset hkeep hc
    by_cases hd:isDig c
    · have hsh:shB i c = 57:=by simp [shB,hd]
      have HSH:=hid hsh
      unfold isDig at hd
      have e2:decide (48 ≤ (c.toNat:Int)) = true:=decide_eq_true (by omega)
      have e3:decide ((c.toNat:Int) ≤ 57) = true:=decide_eq_true (by omega)
      clear hd hsh
      go_wp2
      go_roundw
      case rel =>
       have hB2:=block_set HB.out i (.int .u8 (shB i c).toNat)
       rw [HS.out,HSH.out] at hB2
       exact ⟨i + 1,by omega,by go_num,hB2,HBE.out.setCell (by simp) _⟩
      case measure=>simp [intOf];omega
    · have e23:(decide (48 ≤ (c.toNat:Int)) = false)∨(decide (48 ≤ (c.toNat:Int)) = true∧decide ((c.toNat:Int) ≤ 57) = false):=by
        unfold isDig at hd
        by_cases h:48 ≤ c.toNat
        · exact .inr ⟨decide_eq_true (by omega),decide_eq_false (by omega)⟩
        · exact .inl (decide_eq_false (by omega))
      by_cases h21:i = 21∧c.toNat = 45
      · have hsh:shB i c = 43:=by simp [shB,hd,h21]
        have HSH:=hid hsh
        have e4:decide ((i:Int) = 21) = true:=decide_eq_true (by omega)
        have e5:decide ((c.toNat:Int) = 45) = true:=decide_eq_true (by omega)
        have e6:((i:Int) == 21) = true:=by simp;omega
        have e7:((c.toNat:Int) == 45) = true:=by simp;omega
        have e2:decide (48 ≤ (c.toNat:Int)) = false:=decide_eq_false (by omega)
        clear hd hsh e23 h21
        go_wp2
        go_roundw
        case rel =>
         have hB2:=block_set HB.out i (.int .u8 (shB i c).toNat)
         rw [HS.out,HSH.out] at hB2
         exact ⟨i + 1,by omega,by go_num,hB2,HBE.out.setCell (by simp) _⟩
        case measure=>simp [intOf];omega
      · have hsh:shB i c = c:=by simp [shB,hd,h21]
        have hk:=HK.out hsh
        have hB1:=HB.out
        rw [hk] at hB1
        have HB1':=hid hB1
        clear hB1 hk hsh hd
        have e45:((i:Int) == 21) = false∨(((i:Int) == 21) = true∧((c.toNat:Int) == 45) = false):=by
         by_cases h:i = 21
         · have:c.toNat ≠ 45:=fun h2=>h21 ⟨h,h2⟩
           exact .inr ⟨by simp;omega,by simp;omega⟩
         · exact .inl (by simp;omega)
        clear h21
        have fin:∃ i':Nat,i' ≤ l.length∧((i:Int) + 1) = i'∧wr.heap[w.heap.size]? = some (.cells (shCells i' l rest) 5 (f,f + 1))∧Below w.heap.size w wr:=⟨i + 1,by omega,by omega,HB1'.out,HBE.out⟩
        have FIN:=hid fin
        clear fin
        rcases e23 with e2 | ⟨e2,e3⟩ <;> rcases e45 with e4 | ⟨e4,e5⟩
        all_goals
         go_wp2
         go_roundw
         case rel =>
          obtain ⟨i',h1,h2,h3,h4⟩:=FIN.out
          exact ⟨i',h1,by go_num,h3,h4⟩
         case measure=>simp [intOf];omega
  · have e1:decide ((i:Int) < l.length) = false:=decide_eq_false (by omega)
    have hi2:i = l.length:=by omega
    have hsrc:Src wr (some ⟨w.heap.size,0,none⟩) (bv (shL l)):=by
     refine ⟨fun h=>by simp at h,fun p hp j u hu=>?_⟩
     simp at hp
     subst hp
     have hj:j < (bv (shL l)).length:=(List.getElem?_eq_some_iff.1 hu).1
     rw [Addr.add_lit,cells_at HB.out,Nat.zero_add]
     subst hi2
     simp only [shCells,List.getElem?_toArray,shMix_all]
     rw [List.getElem?_append_left hj]
     exact hu
    have cv:=conv_src hsrc l.length (grownCap w l.length 0 5) (by rw [shL_len])
    clear hi2 hsrc
    go_wp2
    go_ret
    exact ⟨rfl,HBE.out⟩
end Go.Proofs.YtfdmdmahddjjmaaGreatDoor.St
namespace Go.Proofs.YtfdmdmahddjjmaaGreatDoor.St
open Go.RowKit Own
abbrev monLit:ByteArray:={ data:=#[74,97,110,70,101,98,77,97,114,65,112,114,77,97,121,74,117,110,74,117,108,65,117,103,83,101,112,79,99,116,78,111,118,68,101,99] }
abbrev monB (m:Int):ByteArray:=monLit.extract (3 * m - 3).toNat (3 * m).toNat
theorem month_any (m:Int) (w:World) (h:1 ≤ m∧m ≤ 12) :
  Calls Tryz.prog 109 #[.int .i64 m] w fun e w'=>e = .returned (.string (monB m))∧w = w':=by
 go_enter Tryz.func109,Tryz.ntmps109
 go_wp2
 go_ret
 exact ⟨rfl,rfl⟩
theorem clockL_len (h mi s:Int):(clockL h mi s).length = 14:=by simp [clockL,Text.lastL_len]
attribute [local go_sem] str_size Text.lastL_len ByteArray.size_append clockL_len
end Go.Proofs.YtfdmdmahddjjmaaGreatDoor.St
namespace Go.Proofs.YtfdmdmahddjjmaaGreatDoor.St
open Go.RowKit Own
def sl (a b:Nat) (l:List UInt8):List UInt8:=(l.take b).drop a
theorem str_sl (l:List UInt8) (a b:Nat):(str l).extract a b = str (sl a b l):=by
 apply ByteArray.ext
 apply Array.ext'
 simp [str,sl,ByteArray.data_extract,List.drop_take,Array.toList_extract]
theorem sl_len (l:List UInt8) (a b:Nat) (h:b ≤ l.length):(sl a b l).length = b - a:=by simp [sl];omega
def encL (c:UInt8):List UInt8:=(Utf8.encode c.toNat).data.toList
def dig0 (l:List UInt8):UInt8:=if l.headD 0 = 32 then 48 else l.headD 0
def restL (l:List UInt8):List UInt8:=encL (dig0 l) ++ sl 1 3 l ++ [120,120,120] ++ sl 6 26 l
def patL:List UInt8:=[57,57,45,120,120,120,45,57,57,57,57,32,57,57,58,57,57,58,57,57,32,43,57,57,57,57]
def monI (l:List UInt8):Int:=Lib.index monLit.data.toList (sl 3 6 l)
def offI (l:List UInt8):Int:=if l.getD 21 0 = 43 then -(numI 0 (sl 22 24 l) * 3600 + numI 0 (sl 24 26 l) * 60) else numI 0 (sl 22 24 l) * 3600 + numI 0 (sl 24 26 l) * 60
def secsP (l:List UInt8):Int × Bool:=secPair (numI 0 (sl 7 11 l)) (monI l / 3 + 1) (numI 0 (sl 0 2 (restL l))) (numI 0 (sl 12 14 l)) (numI 0 (sl 15 17 l)) (numI 0 (sl 18 20 l))
def zoneB (l:List UInt8):Bool:=decide (numI 0 (sl 22 24 l) ≤ 14) && decide (numI 0 (sl 24 26 l) ≤ 59)
def parseP (l:List UInt8):Int × Int :=
 if l.length ≠ 26∨l.headD 0 = 48 then (0,80)
 else if monI l < 0∨0 < monI l % 3∨shL (restL l) ≠ patL then (0,80)
 else momP ((secsP l).1 + offI l) ((secsP l).2 && zoneB l)
def parseV (p:Int × Int):Value:=.tuple #[.int .i64 p.1,.int .i64 p.2]
theorem parse_len (l:List UInt8) (w:World) (h:l.length ≠ 26) :
  Calls Tryz.prog 96 #[.string (str l)] w fun e w'=>e = .returned (.tuple #[.int .i64 0,.int .i64 80])∧w = w':=by
 have hsz:=str_size l
 have e1:((l.length:Int) == 26) = false:=by simp;omega
 go_enter Tryz.func96,Tryz.ntmps96
 go_wp2
 exact bodyPost_ret (v:=.tuple #[.int .i64 0,.int .i64 80]) (by simp [results,Tryz.results96,go_sem]) rfl ⟨rfl,rfl⟩
theorem parse_zero (l:List UInt8) (w:World) (h:l.length = 26) (h0:l.headD 0 = 48) :
  Calls Tryz.prog 96 #[.string (str l)] w fun e w'=>e = .returned (.tuple #[.int .i64 0,.int .i64 80])∧w = w':=by
 have hsz:=str_size l
 have e1:((l.length:Int) == 26) = true:=by simp;omega
 obtain ⟨c,l',rfl⟩:∃ c l',l = c :: l':=by
  cases l with
  | nil=>simp at h
  | cons c l'=>exact ⟨c,l',rfl⟩
 have e2:(c.toNat:Int) = 48:=by simp at h0;rw [h0];rfl
 have hix:∀ h,(str (c :: l'))[0]'h = c:=fun _=>rfl
 clear h0
 generalize str (c :: l') = s at *
 go_enter Tryz.func96,Tryz.ntmps96
 go_wp2
 exact bodyPost_ret (v:=.tuple #[.int .i64 0,.int .i64 80]) (by simp [results,Tryz.results96,go_sem]) rfl ⟨rfl,rfl⟩
end Go.Proofs.YtfdmdmahddjjmaaGreatDoor.St
