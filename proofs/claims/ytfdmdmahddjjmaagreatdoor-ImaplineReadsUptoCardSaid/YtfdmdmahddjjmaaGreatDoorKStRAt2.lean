/-
  The reference's seconds of a date that is none.
-/
import Derived.Test.YtfdmdmahddjjmaaGreatDoorPkSt
set_option linter.unusedVariables false
set_option linter.unusedSimpArgs false
set_option maxRecDepth 100000
namespace Go.Proofs.YtfdmdmahddjjmaaGreatDoor.St
open Go.RowKit Own
set_option maxHeartbeats 4000000 in
theorem at_bad6 (y m d h mi s wd:Int) (w:World) (c0:¬ y < 1999) (c1:¬ 2137 < y) (c2:¬ m < 1) (c3:¬ 12 < m) (c4:¬ d < 1) (c5:¬ Date.mlen y m < d) (c6:h < 0) :
  Calls Tryz.prog 110 #[.agg (time7 y m d h mi s wd)] w fun e w'=>e = .returned (.tuple #[.int .i64 0,.bool false])∧Below w.heap.size w w':=by
 unfold time7
 have fin:∀ (o:Obj) n,Below w.heap.size w ((w.alloc o).drewN n):=fun o n=>below_drewN ((Below.refl _ _).alloc (Nat.le_refl _) o) n
 have yr:0 ≤ y∧y ≤ 100000:=by omega
 have e0:decide (y < 1999) = false:=decide_eq_false c0
 have e1:decide (2137 < y) = false:=decide_eq_false c1
 have e2:decide (m < 1) = false:=decide_eq_false c2
 have e3:decide (12 < m) = false:=decide_eq_false c3
 have e4:decide (d < 1) = false:=decide_eq_false c4
 have e5:decide (Date.mlen y m < d) = false:=decide_eq_false c5
 have e6:decide (h < 0) = true:=decide_eq_true c6
 clear c0 c1 c2 c3 c4 c5 c6
 go_enter Tryz.func110,Tryz.ntmps110
 go_wp2_with fail
 go_quiet ((go_at_call 139;exact Calls.quiet_of_same ((rdays_any _ _ _ yr.1 yr.2).mono fun _ _ ⟨he,hw⟩=>⟨he,hw.symm⟩)))
 go_step
 go_wp2
 exact bodyPost_ret (v:=.tuple #[.int .i64 0,.bool false]) (by simp [results,Tryz.results110,go_sem]) rfl ⟨rfl,fin _ _⟩
set_option maxHeartbeats 4000000 in
theorem at_bad7 (y m d h mi s wd:Int) (w:World) (c0:¬ y < 1999) (c1:¬ 2137 < y) (c2:¬ m < 1) (c3:¬ 12 < m) (c4:¬ d < 1) (c5:¬ Date.mlen y m < d) (c6:¬ h < 0) (c7:23 < h) :
  Calls Tryz.prog 110 #[.agg (time7 y m d h mi s wd)] w fun e w'=>e = .returned (.tuple #[.int .i64 0,.bool false])∧Below w.heap.size w w':=by
 unfold time7
 have fin:∀ (o:Obj) n,Below w.heap.size w ((w.alloc o).drewN n):=fun o n=>below_drewN ((Below.refl _ _).alloc (Nat.le_refl _) o) n
 have yr:0 ≤ y∧y ≤ 100000:=by omega
 have e0:decide (y < 1999) = false:=decide_eq_false c0
 have e1:decide (2137 < y) = false:=decide_eq_false c1
 have e2:decide (m < 1) = false:=decide_eq_false c2
 have e3:decide (12 < m) = false:=decide_eq_false c3
 have e4:decide (d < 1) = false:=decide_eq_false c4
 have e5:decide (Date.mlen y m < d) = false:=decide_eq_false c5
 have e6:decide (h < 0) = false:=decide_eq_false c6
 have e7:decide (23 < h) = true:=decide_eq_true c7
 clear c0 c1 c2 c3 c4 c5 c6 c7
 go_enter Tryz.func110,Tryz.ntmps110
 go_wp2_with fail
 go_quiet ((go_at_call 139;exact Calls.quiet_of_same ((rdays_any _ _ _ yr.1 yr.2).mono fun _ _ ⟨he,hw⟩=>⟨he,hw.symm⟩)))
 go_step
 go_wp2
 exact bodyPost_ret (v:=.tuple #[.int .i64 0,.bool false]) (by simp [results,Tryz.results110,go_sem]) rfl ⟨rfl,fin _ _⟩
set_option maxHeartbeats 4000000 in
theorem at_bad8 (y m d h mi s wd:Int) (w:World) (c0:¬ y < 1999) (c1:¬ 2137 < y) (c2:¬ m < 1) (c3:¬ 12 < m) (c4:¬ d < 1) (c5:¬ Date.mlen y m < d) (c6:¬ h < 0) (c7:¬ 23 < h) (c8:mi < 0) :
  Calls Tryz.prog 110 #[.agg (time7 y m d h mi s wd)] w fun e w'=>e = .returned (.tuple #[.int .i64 0,.bool false])∧Below w.heap.size w w':=by
 unfold time7
 have fin:∀ (o:Obj) n,Below w.heap.size w ((w.alloc o).drewN n):=fun o n=>below_drewN ((Below.refl _ _).alloc (Nat.le_refl _) o) n
 have yr:0 ≤ y∧y ≤ 100000:=by omega
 have e0:decide (y < 1999) = false:=decide_eq_false c0
 have e1:decide (2137 < y) = false:=decide_eq_false c1
 have e2:decide (m < 1) = false:=decide_eq_false c2
 have e3:decide (12 < m) = false:=decide_eq_false c3
 have e4:decide (d < 1) = false:=decide_eq_false c4
 have e5:decide (Date.mlen y m < d) = false:=decide_eq_false c5
 have e6:decide (h < 0) = false:=decide_eq_false c6
 have e7:decide (23 < h) = false:=decide_eq_false c7
 have e8:decide (mi < 0) = true:=decide_eq_true c8
 clear c0 c1 c2 c3 c4 c5 c6 c7 c8
 go_enter Tryz.func110,Tryz.ntmps110
 go_wp2_with fail
 go_quiet ((go_at_call 139;exact Calls.quiet_of_same ((rdays_any _ _ _ yr.1 yr.2).mono fun _ _ ⟨he,hw⟩=>⟨he,hw.symm⟩)))
 go_step
 go_wp2
 exact bodyPost_ret (v:=.tuple #[.int .i64 0,.bool false]) (by simp [results,Tryz.results110,go_sem]) rfl ⟨rfl,fin _ _⟩
set_option maxHeartbeats 4000000 in
theorem at_bad9 (y m d h mi s wd:Int) (w:World) (c0:¬ y < 1999) (c1:¬ 2137 < y) (c2:¬ m < 1) (c3:¬ 12 < m) (c4:¬ d < 1) (c5:¬ Date.mlen y m < d) (c6:¬ h < 0) (c7:¬ 23 < h) (c8:¬ mi < 0) (c9:59 < mi) :
  Calls Tryz.prog 110 #[.agg (time7 y m d h mi s wd)] w fun e w'=>e = .returned (.tuple #[.int .i64 0,.bool false])∧Below w.heap.size w w':=by
 unfold time7
 have fin:∀ (o:Obj) n,Below w.heap.size w ((w.alloc o).drewN n):=fun o n=>below_drewN ((Below.refl _ _).alloc (Nat.le_refl _) o) n
 have yr:0 ≤ y∧y ≤ 100000:=by omega
 have e0:decide (y < 1999) = false:=decide_eq_false c0
 have e1:decide (2137 < y) = false:=decide_eq_false c1
 have e2:decide (m < 1) = false:=decide_eq_false c2
 have e3:decide (12 < m) = false:=decide_eq_false c3
 have e4:decide (d < 1) = false:=decide_eq_false c4
 have e5:decide (Date.mlen y m < d) = false:=decide_eq_false c5
 have e6:decide (h < 0) = false:=decide_eq_false c6
 have e7:decide (23 < h) = false:=decide_eq_false c7
 have e8:decide (mi < 0) = false:=decide_eq_false c8
 have e9:decide (59 < mi) = true:=decide_eq_true c9
 clear c0 c1 c2 c3 c4 c5 c6 c7 c8 c9
 go_enter Tryz.func110,Tryz.ntmps110
 go_wp2_with fail
 go_quiet ((go_at_call 139;exact Calls.quiet_of_same ((rdays_any _ _ _ yr.1 yr.2).mono fun _ _ ⟨he,hw⟩=>⟨he,hw.symm⟩)))
 go_step
 go_wp2
 exact bodyPost_ret (v:=.tuple #[.int .i64 0,.bool false]) (by simp [results,Tryz.results110,go_sem]) rfl ⟨rfl,fin _ _⟩
set_option maxHeartbeats 4000000 in
theorem at_bad10 (y m d h mi s wd:Int) (w:World) (c0:¬ y < 1999) (c1:¬ 2137 < y) (c2:¬ m < 1) (c3:¬ 12 < m) (c4:¬ d < 1) (c5:¬ Date.mlen y m < d) (c6:¬ h < 0) (c7:¬ 23 < h) (c8:¬ mi < 0) (c9:¬ 59 < mi) (c10:s < 0) :
  Calls Tryz.prog 110 #[.agg (time7 y m d h mi s wd)] w fun e w'=>e = .returned (.tuple #[.int .i64 0,.bool false])∧Below w.heap.size w w':=by
 unfold time7
 have fin:∀ (o:Obj) n,Below w.heap.size w ((w.alloc o).drewN n):=fun o n=>below_drewN ((Below.refl _ _).alloc (Nat.le_refl _) o) n
 have yr:0 ≤ y∧y ≤ 100000:=by omega
 have e0:decide (y < 1999) = false:=decide_eq_false c0
 have e1:decide (2137 < y) = false:=decide_eq_false c1
 have e2:decide (m < 1) = false:=decide_eq_false c2
 have e3:decide (12 < m) = false:=decide_eq_false c3
 have e4:decide (d < 1) = false:=decide_eq_false c4
 have e5:decide (Date.mlen y m < d) = false:=decide_eq_false c5
 have e6:decide (h < 0) = false:=decide_eq_false c6
 have e7:decide (23 < h) = false:=decide_eq_false c7
 have e8:decide (mi < 0) = false:=decide_eq_false c8
 have e9:decide (59 < mi) = false:=decide_eq_false c9
 have e10:decide (s < 0) = true:=decide_eq_true c10
 clear c0 c1 c2 c3 c4 c5 c6 c7 c8 c9 c10
 go_enter Tryz.func110,Tryz.ntmps110
 go_wp2_with fail
 go_quiet ((go_at_call 139;exact Calls.quiet_of_same ((rdays_any _ _ _ yr.1 yr.2).mono fun _ _ ⟨he,hw⟩=>⟨he,hw.symm⟩)))
 go_step
 go_wp2
 exact bodyPost_ret (v:=.tuple #[.int .i64 0,.bool false]) (by simp [results,Tryz.results110,go_sem]) rfl ⟨rfl,fin _ _⟩
set_option maxHeartbeats 4000000 in
theorem at_bad11 (y m d h mi s wd:Int) (w:World) (c0:¬ y < 1999) (c1:¬ 2137 < y) (c2:¬ m < 1) (c3:¬ 12 < m) (c4:¬ d < 1) (c5:¬ Date.mlen y m < d) (c6:¬ h < 0) (c7:¬ 23 < h) (c8:¬ mi < 0) (c9:¬ 59 < mi) (c10:¬ s < 0) (c11:59 < s) :
  Calls Tryz.prog 110 #[.agg (time7 y m d h mi s wd)] w fun e w'=>e = .returned (.tuple #[.int .i64 0,.bool false])∧Below w.heap.size w w':=by
 unfold time7
 have fin:∀ (o:Obj) n,Below w.heap.size w ((w.alloc o).drewN n):=fun o n=>below_drewN ((Below.refl _ _).alloc (Nat.le_refl _) o) n
 have yr:0 ≤ y∧y ≤ 100000:=by omega
 have e0:decide (y < 1999) = false:=decide_eq_false c0
 have e1:decide (2137 < y) = false:=decide_eq_false c1
 have e2:decide (m < 1) = false:=decide_eq_false c2
 have e3:decide (12 < m) = false:=decide_eq_false c3
 have e4:decide (d < 1) = false:=decide_eq_false c4
 have e5:decide (Date.mlen y m < d) = false:=decide_eq_false c5
 have e6:decide (h < 0) = false:=decide_eq_false c6
 have e7:decide (23 < h) = false:=decide_eq_false c7
 have e8:decide (mi < 0) = false:=decide_eq_false c8
 have e9:decide (59 < mi) = false:=decide_eq_false c9
 have e10:decide (s < 0) = false:=decide_eq_false c10
 have e11:decide (59 < s) = true:=decide_eq_true c11
 clear c0 c1 c2 c3 c4 c5 c6 c7 c8 c9 c10 c11
 go_enter Tryz.func110,Tryz.ntmps110
 go_wp2_with fail
 go_quiet ((go_at_call 139;exact Calls.quiet_of_same ((rdays_any _ _ _ yr.1 yr.2).mono fun _ _ ⟨he,hw⟩=>⟨he,hw.symm⟩)))
 go_step
 go_wp2
 exact bodyPost_ret (v:=.tuple #[.int .i64 0,.bool false]) (by simp [results,Tryz.results110,go_sem]) rfl ⟨rfl,fin _ _⟩
end Go.Proofs.YtfdmdmahddjjmaaGreatDoor.St
