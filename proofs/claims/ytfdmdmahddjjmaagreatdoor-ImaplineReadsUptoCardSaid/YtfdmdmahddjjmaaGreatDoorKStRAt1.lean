/-
  The reference's seconds of a date that is none.
-/
import Derived.Test.YtfdmdmahddjjmaaGreatDoorPkSt
set_option linter.unusedVariables false
set_option linter.unusedSimpArgs false
set_option maxRecDepth 100000
namespace Go.Proofs.YtfdmdmahddjjmaaGreatDoor.St
open Go.RowKit Own
set_option maxHeartbeats 4000000 in
theorem at_bad0 (y m d h mi s wd:Int) (w:World) (c0:y < 1999) :
  Calls Tryz.prog 110 #[.agg (time7 y m d h mi s wd)] w fun e w'=>e = .returned (.tuple #[.int .i64 0,.bool false])∧Below w.heap.size w w':=by
 unfold time7
 have fin:∀ (o:Obj) n,Below w.heap.size w ((w.alloc o).drewN n):=fun o n=>below_drewN ((Below.refl _ _).alloc (Nat.le_refl _) o) n
 have e0:decide (y < 1999) = true:=decide_eq_true c0
 clear c0
 go_enter Tryz.func110,Tryz.ntmps110
 go_wp2_with fail
 go_quiet (fail)
 go_step
 go_wp2
 exact bodyPost_ret (v:=.tuple #[.int .i64 0,.bool false]) (by simp [results,Tryz.results110,go_sem]) rfl ⟨rfl,fin _ _⟩
set_option maxHeartbeats 4000000 in
theorem at_bad1 (y m d h mi s wd:Int) (w:World) (c0:¬ y < 1999) (c1:2137 < y) :
  Calls Tryz.prog 110 #[.agg (time7 y m d h mi s wd)] w fun e w'=>e = .returned (.tuple #[.int .i64 0,.bool false])∧Below w.heap.size w w':=by
 unfold time7
 have fin:∀ (o:Obj) n,Below w.heap.size w ((w.alloc o).drewN n):=fun o n=>below_drewN ((Below.refl _ _).alloc (Nat.le_refl _) o) n
 have e0:decide (y < 1999) = false:=decide_eq_false c0
 have e1:decide (2137 < y) = true:=decide_eq_true c1
 clear c0 c1
 go_enter Tryz.func110,Tryz.ntmps110
 go_wp2_with fail
 go_quiet (fail)
 go_step
 go_wp2
 exact bodyPost_ret (v:=.tuple #[.int .i64 0,.bool false]) (by simp [results,Tryz.results110,go_sem]) rfl ⟨rfl,fin _ _⟩
set_option maxHeartbeats 4000000 in
theorem at_bad2 (y m d h mi s wd:Int) (w:World) (c0:¬ y < 1999) (c1:¬ 2137 < y) (c2:m < 1) :
  Calls Tryz.prog 110 #[.agg (time7 y m d h mi s wd)] w fun e w'=>e = .returned (.tuple #[.int .i64 0,.bool false])∧Below w.heap.size w w':=by
 unfold time7
 have fin:∀ (o:Obj) n,Below w.heap.size w ((w.alloc o).drewN n):=fun o n=>below_drewN ((Below.refl _ _).alloc (Nat.le_refl _) o) n
 have yr:0 ≤ y∧y ≤ 100000:=by omega
 have e0:decide (y < 1999) = false:=decide_eq_false c0
 have e1:decide (2137 < y) = false:=decide_eq_false c1
 have e2:decide (m < 1) = true:=decide_eq_true c2
 clear c0 c1 c2
 go_enter Tryz.func110,Tryz.ntmps110
 go_wp2_with fail
 go_quiet (fail)
 go_step
 go_wp2
 exact bodyPost_ret (v:=.tuple #[.int .i64 0,.bool false]) (by simp [results,Tryz.results110,go_sem]) rfl ⟨rfl,fin _ _⟩
set_option maxHeartbeats 4000000 in
theorem at_bad3 (y m d h mi s wd:Int) (w:World) (c0:¬ y < 1999) (c1:¬ 2137 < y) (c2:¬ m < 1) (c3:12 < m) :
  Calls Tryz.prog 110 #[.agg (time7 y m d h mi s wd)] w fun e w'=>e = .returned (.tuple #[.int .i64 0,.bool false])∧Below w.heap.size w w':=by
 unfold time7
 have fin:∀ (o:Obj) n,Below w.heap.size w ((w.alloc o).drewN n):=fun o n=>below_drewN ((Below.refl _ _).alloc (Nat.le_refl _) o) n
 have yr:0 ≤ y∧y ≤ 100000:=by omega
 have e0:decide (y < 1999) = false:=decide_eq_false c0
 have e1:decide (2137 < y) = false:=decide_eq_false c1
 have e2:decide (m < 1) = false:=decide_eq_false c2
 have e3:decide (12 < m) = true:=decide_eq_true c3
 clear c0 c1 c2 c3
 go_enter Tryz.func110,Tryz.ntmps110
 go_wp2_with fail
 go_quiet (fail)
 go_step
 go_wp2
 exact bodyPost_ret (v:=.tuple #[.int .i64 0,.bool false]) (by simp [results,Tryz.results110,go_sem]) rfl ⟨rfl,fin _ _⟩
set_option maxHeartbeats 4000000 in
theorem at_bad4 (y m d h mi s wd:Int) (w:World) (c0:¬ y < 1999) (c1:¬ 2137 < y) (c2:¬ m < 1) (c3:¬ 12 < m) (c4:d < 1) :
  Calls Tryz.prog 110 #[.agg (time7 y m d h mi s wd)] w fun e w'=>e = .returned (.tuple #[.int .i64 0,.bool false])∧Below w.heap.size w w':=by
 unfold time7
 have fin:∀ (o:Obj) n,Below w.heap.size w ((w.alloc o).drewN n):=fun o n=>below_drewN ((Below.refl _ _).alloc (Nat.le_refl _) o) n
 have yr:0 ≤ y∧y ≤ 100000:=by omega
 have e0:decide (y < 1999) = false:=decide_eq_false c0
 have e1:decide (2137 < y) = false:=decide_eq_false c1
 have e2:decide (m < 1) = false:=decide_eq_false c2
 have e3:decide (12 < m) = false:=decide_eq_false c3
 have e4:decide (d < 1) = true:=decide_eq_true c4
 clear c0 c1 c2 c3 c4
 go_enter Tryz.func110,Tryz.ntmps110
 go_wp2_with fail
 go_quiet (fail)
 go_step
 go_wp2
 exact bodyPost_ret (v:=.tuple #[.int .i64 0,.bool false]) (by simp [results,Tryz.results110,go_sem]) rfl ⟨rfl,fin _ _⟩
set_option maxHeartbeats 4000000 in
theorem at_bad5 (y m d h mi s wd:Int) (w:World) (c0:¬ y < 1999) (c1:¬ 2137 < y) (c2:¬ m < 1) (c3:¬ 12 < m) (c4:¬ d < 1) (c5:Date.mlen y m < d) :
  Calls Tryz.prog 110 #[.agg (time7 y m d h mi s wd)] w fun e w'=>e = .returned (.tuple #[.int .i64 0,.bool false])∧Below w.heap.size w w':=by
 unfold time7
 have fin:∀ (o:Obj) n,Below w.heap.size w ((w.alloc o).drewN n):=fun o n=>below_drewN ((Below.refl _ _).alloc (Nat.le_refl _) o) n
 have yr:0 ≤ y∧y ≤ 100000:=by omega
 have e0:decide (y < 1999) = false:=decide_eq_false c0
 have e1:decide (2137 < y) = false:=decide_eq_false c1
 have e2:decide (m < 1) = false:=decide_eq_false c2
 have e3:decide (12 < m) = false:=decide_eq_false c3
 have e4:decide (d < 1) = false:=decide_eq_false c4
 have e5:decide (Date.mlen y m < d) = true:=decide_eq_true c5
 clear c0 c1 c2 c3 c4 c5
 go_enter Tryz.func110,Tryz.ntmps110
 go_wp2_with fail
 go_quiet ((go_at_call 139;exact Calls.quiet_of_same ((rdays_any _ _ _ yr.1 yr.2).mono fun _ _ ⟨he,hw⟩=>⟨he,hw.symm⟩)))
 go_step
 go_wp2
 exact bodyPost_ret (v:=.tuple #[.int .i64 0,.bool false]) (by simp [results,Tryz.results110,go_sem]) rfl ⟨rfl,fin _ _⟩
end Go.Proofs.YtfdmdmahddjjmaaGreatDoor.St
