/-
  Joined texts: Open Laid.
-/
import Derived.Test.YtfdmdmahddjjmaaGreatDoorRows
import Derived.Test.YtfdmdmahddjjmaaGreatDoorPkOwn
import Derived.ChangeSlices
import Derived.OpenShut
import Derived.SizedLaws
import Derived.ShutString
import Derived.Test.YtfdmdmahddjjmaaGreatDoorTie
import Derived.Test.YtfdmdmahddjjmaaGreatDoorCards
import Derived.Test.YtfdmdmahddjjmaaGreatDoorPkIm0
import Derived.WalkKit
import Derived.ProofKit
import Derived.LaidMore
import Derived.LaidLaws
import Derived.LaidHandle
import Derived.MakeChecks
import Derived.Deep.DeepHandedRow
import Derived.Deep.DeepWitnessRowRef
import Derived.Lib.LaidTab
import Derived.Shelf.Vars
import Derived.SevenTiedAt
set_option linter.unusedVariables false
set_option linter.unusedSimpArgs false
set_option maxRecDepth 100000
namespace Go.Proofs.YtfdmdmahddjjmaaGreatDoor
open Go.RowKit Own
open Go.ChangeShapes Go.WideShapes
namespace Bulk
theorem one_le {H:Type} (d:DataW H):1 ≤ Rows.uptoBulk d:=by
 cases d with
 | lit l=>cases l <;> simp [Rows.uptoBulk]
 | _=>simp [Rows.uptoBulk]
theorem length_le {H:Type} (l:List (DataW H)):l.length ≤ Rows.uptoBulkAll l:=by
 induction l with
 | nil=>simp [Rows.uptoBulkAll]
 | cons x r ih=>have:=one_le x;simp only [Rows.uptoBulkAll,List.length_cons];omega
theorem part {H:Type} {d:DataW H} {l:List (DataW H)} (h:d ∈ l):Rows.uptoBulk d ≤ Rows.uptoBulkAll l:=by
 induction l with
 | nil=>cases h
 | cons x r ih =>
  simp only [Rows.uptoBulkAll]
  cases List.mem_cons.1 h with
  | inl e=>subst e;omega
  | inr e=>have:=ih e;omega
theorem bound {H:Type} {l:List (DataW H)} (hk:Rows.uptoSmall H l = true) {d:DataW H} (h:d ∈ l):Rows.uptoBulk d ≤ 1048576 :=
 Nat.le_trans (part h) (of_decide_eq_true hk)
theorem text {H:Type} {l:List (DataW H)} (hk:Rows.uptoSmall H l = true) {s:List UInt8} (h:DataW.lit (.string s) ∈ l):s.length ≤ 1048576:=by
 have:=bound hk h
 simp only [Rows.uptoBulk] at this
 omega
end Bulk
end Go.Proofs.YtfdmdmahddjjmaaGreatDoor
namespace Go.Proofs.YtfdmdmahddjjmaaGreatDoor
open Go.ChangeShapes Go.WideShapes Go.ChangeAt Go.RowKit
theorem own:ownKnob Tryz.prog.godebug = none:=by kernel_rfl
theorem gPow : Tryz.prog.globalNamed "internal/strconv.uint64pow10" = some 4 := by kernel_rfl
theorem tPow:(Tryz.prog.globals[4]?).map (·.type) = some 153:=by kernel_rfl
theorem gErr : Tryz.prog.globalNamed "strconv.ErrSyntax" = some 1 := by kernel_rfl
theorem tErr:(Tryz.prog.globals[1]?).map (·.type) = some 81:=by kernel_rfl
theorem cellsPow:Tryz.prog.cellsOf 153 = 20:=by kernel_rfl
theorem cellsU64:Tryz.prog.cellsOf 135 = 1:=by kernel_rfl
abbrev laidL:List (String × DataW Unit):=Rows.imaplineLettersRow.laid
theorem gLengths : Tryz.prog.globalNamed "estafette/stamp.lengths" = some 3 := by kernel_rfl
theorem tLengths:(Tryz.prog.globals[3]?).map (·.type) = some 146:=by kernel_rfl
theorem good_of {W:World} (h:laidMetH Tryz.prog laidL W) (hs:W.ShapedOpen Tryz.prog):Gd W:=by
 rw [MakeChecks.laidMetH_plain _ _ _ (by kernel_rfl)] at h
 obtain ⟨ps,⟨_,_,_,_,_,_,_,_,_,_,⟨_,_,_,_,_,_,_,_,_,_,⟨g1,t1,cs1,f1,p1,q1,hg1,ht1,hv1,hd1,⟨_,_,_,_,_,_,_,_,_,_,⟨_,_,_,_,_,_,_,_,_,_,⟨g2,t2,cs2,f2,p2,q2,hg2,ht2,hv2,hd2,⟨g0,t0,cs0,f0,p0,q0,hg0,ht0,hv0,hd0,_⟩,_⟩,_⟩,_⟩,_⟩,_⟩,_⟩,_⟩:=h
 obtain rfl:=Option.some.inj (gPow.symm.trans hg1)
 obtain rfl:=Option.some.inj (tPow.symm.trans ht1)
 obtain rfl:=Option.some.inj (gErr.symm.trans hg2)
 obtain rfl:=Option.some.inj (tErr.symm.trans ht2)
 obtain rfl:=Option.some.inj (gLengths.symm.trans hg0)
 obtain rfl:=Option.some.inj (tLengths.symm.trans ht0)
 have hl:St.Lens W:=by
  obtain ⟨xs,m1,rfl,hx1,hlen,hn3,hel⟩:=DataW.trod_array Tryz.underlying146 hd0
  have c3:Tryz.prog.cellsOf 3 = 1:=by kernel_rfl
  have c24:Tryz.prog.cellsOf 146 = 12:=by kernel_rfl
  simp only [Prod.mk.injEq] at hx1
  intro j hj
  have h0:=hel j hj
  have hcell:=World.var?_cell hg0 hv0 j
  rw [hcell]
  have hxj:∃ x,xs[j]? = some x:=⟨_,List.getElem?_eq_getElem (by omega)⟩
  obtain ⟨x,hx⟩:=hxj
  rw [hx] at h0
  obtain ⟨k,e1,e2,_⟩:=DataW.trod_int Tryz.underlying3 h0
  rw [c3] at e1
  have e3:(cs0.toList.drop j).take 1 = [Value.int .i64 k]:=by simpa using e1
  have hcs:cs0[j]? = some (.int .i64 k):=by
   have:=congrArg (fun l=>l[0]?) e3
   simpa using this
  rw [hcs]
  have hag:=hx1.1
  have hk:(xs.map (·.1))[j]? = some (.lit (.int .i64 k)):=by rw [List.getElem?_map,hx];simp [e2]
  have hag2:xs.map (·.1) = [.lit (.int .i64 31),.lit (.int .i64 28),.lit (.int .i64 31),.lit (.int .i64 30),.lit (.int .i64 31),.lit (.int .i64 30),.lit (.int .i64 31),.lit (.int .i64 31),.lit (.int .i64 30),.lit (.int .i64 31),.lit (.int .i64 30),.lit (.int .i64 31)]:=by
   have:=hx1.1
   unfold Rows.laid_estafette_stamp_lengths at this
   injection this with h;exact h.symm
  rw [hag2] at hk
  have hj2:j = 0∨j = 1∨j = 2∨j = 3∨j = 4∨j = 5∨j = 6∨j = 7∨j = 8∨j = 9∨j = 10∨j = 11:=by omega
  rcases hj2 with rfl | rfl | rfl | rfl | rfl | rfl | rfl | rfl | rfl | rfl | rfl | rfl <;> (simp at hk;rw [← hk];rfl)
 refine ⟨⟨?_,?_,?_⟩,hl,World.block_lt_of_cell? W ⟨3,0,none⟩ (hl 0 (by decide))⟩
 · have hd:DataW.trod (fun _=>()) Tryz.prog W 0 (fun _=>true) false f1 153 cs1.toList = some (Lib.tabData .u64 Lib.pow10Tab,p1):=hd1
   unfold Lib.TabIs
   rw [hv1,← Lib.cells_of_tab Tryz.underlying153 Tryz.underlying135 cellsU64 cellsPow hd]
 · obtain ⟨_,u,v,hcs,_,_⟩:=iface_of_trod Tryz.underlying81 hd2
   refine ⟨u,v,?_⟩
   rw [hv2]
   congr 1
   apply Array.ext'
   simpa using hcs
 · exact cell_of_shapedOpen_int (zero:=#[.int .i64 0]) (t:=3) hs (of_decide_eq_true (by kernel_rfl)) (by kernel_rfl) rfl (by kernel_rfl) (by kernel_rfl) Tryz.underlying3
def cellOf:DataW Unit→Value
 | .lit (.int k n)=>.int k n
 | _=>undef
def cellsOf:DataW Unit→Array Value
 | .agg ds=>(ds.map cellOf).toArray
 | _=>#[]
noncomputable def laidWorld (os:Os):World :=
 { World.doorLaid Tryz.prog 400 os with heap:=(World.doorLaid Tryz.prog 400 os).heap.modify 7 fun
   | .cells _ t frozen=>.cells (cellsOf Go.Pinned.utf8First) t frozen
   | o=>o }
theorem laid_met (os:Os) (args:Array Value):laidMetH Tryz.prog laidL ((laidWorld os).forCall (fun _ _=>0) ⟨#[],args,[]⟩).memory :=
 laidMetH_of_parts3 (fuel:=8) (laidMet_of_run' 8 (by kernel_rfl) (by kernel_rfl)) (by kernel_rfl) (by kernel_rfl)
theorem laid_refs (os:Os) (args:Array Value):((laidWorld os).forCall (fun _ _=>0) ⟨#[],args,[]⟩).variablesRefB Tryz.prog = true:=by kernel_rfl
theorem laid_rest (os:Os) (args:Array Value):(((laidWorld os).forCall (fun _ _=>0) ⟨#[],args,[]⟩).heap.toList.drop Tryz.prog.globals.size).take ((begin Tryz.prog (fun _ _=>0) default).world.heap.size - Tryz.prog.globals.size) =
      (begin Tryz.prog (fun _ _=>0) default).world.heap.toList.drop Tryz.prog.globals.size:=by kernel_rfl
end Go.Proofs.YtfdmdmahddjjmaaGreatDoor
