/-
  The commands' table: its walk.
-/
import Derived.Test.YtfdmdmahddjjmaaGreatDoorPkIm2
import Derived.Laws.EntriesVeiled
import Derived.Test.YtfdmdmahddjjmaaGreatDoorPkOwn
import Derived.Deep.RegionHeld3
set_option linter.unusedVariables false
set_option linter.unusedSimpArgs false
set_option maxRecDepth 100000
namespace Go.Proofs.YtfdmdmahddjjmaaGreatDoor
open Go.RowKit Own Im
attribute [local go_sem] str_toList str_size
theorem low3 {w W1 W2 W3 V:World} {o1 o2 o3:Obj} {b:Nat} {l:List (Bt × Value)} (h:MapIn (((w.alloc o1).alloc o2).alloc o3) V b l) (h1:W1 = w.alloc o1) (h2:W2 = W1.alloc o2) (h3:W3 = W2.alloc o3):∀ (k:Nat) (o:Obj),W3.heap[k]? = some o→V.heap[k]? = some o:=by
 subst h1 h2 h3
 intro k o hk
 exact (h.low.block k (lt_of_block hk)).trans hk
set_option maxHeartbeats 8000000 in
theorem forms_any (w:World):Calls Tryz.prog 27 #[] w fun e w'=>∃ b,e = .returned (.map (some b))∧MapAt w' b formsV∧Below w.heap.size w w'∧w.heap.size ≤ b:=by
 have hmm:=@run_makeMap Tryz.prog
 obtain ⟨W1,hW1⟩:∃ W1,W1 = w.alloc (.cells #[.bool false,.func (.func 49) #[] #[]] 58):=⟨_,rfl⟩
 obtain ⟨W2,hW2⟩:∃ W2,W2 = W1.alloc (.cells #[.bool false,.func (.func 50) #[] #[]] 58):=⟨_,rfl⟩
 obtain ⟨W3,hW3⟩:∃ W3,W3 = W2.alloc (.cells #[.bool false,.func (.func 52) #[] #[]] 58):=⟨_,rfl⟩
 have s1:W1.heap.size = w.heap.size + 1:=by rw [hW1];simp
 have s2:W2.heap.size = w.heap.size + 2:=by rw [hW2];simp [s1]
 have s3:W3.heap.size = w.heap.size + 3:=by rw [hW3];simp [s2]
 have k1:W1.heap[w.heap.size]? = some (.cells #[.bool false,.func (.func 49) #[] #[]] 58):=by rw [hW1];exact heap_alloc_new _ _
 have k2:W2.heap[w.heap.size + 1]? = some (.cells #[.bool false,.func (.func 50) #[] #[]] 58):=by rw [hW2,← s1];exact heap_alloc_new _ _
 have k3:W3.heap[w.heap.size + 1 + 1]? = some (.cells #[.bool false,.func (.func 52) #[] #[]] 58):=by rw [hW3,show w.heap.size + 1 + 1 = W2.heap.size by omega];exact heap_alloc_new _ _
 have b12:Below W1.heap.size W1 W2:=by rw [hW2];exact (Below.refl _ _).alloc (Nat.le_refl _) _
 have b23:Below W2.heap.size W2 W3:=by rw [hW3];exact (Below.refl _ _).alloc (Nat.le_refl _) _
 have b01:Below w.heap.size w W1:=by rw [hW1];exact (Below.refl _ _).alloc (Nat.le_refl _) _
 have b03:Below w.heap.size w W3:=below_then (below_then b01 b12) b23
 have k1':=(b23.block w.heap.size (by omega)).trans ((b12.block w.heap.size (by omega)).trans k1)
 have k2':=(b23.block (w.heap.size + 1) (by omega)).trans k2
 have hM:=MapIn.new' W3
 rw [s3,hW3,hW2,hW1] at hM
 have K1:=hid k1'
 have K2:=hid k2'
 have K3:=hid k3
 have B03:=hid b03
 have hsz:=hid s3
 clear k1 k2 k3 k1' k2' b12 b23 b01 b03 s1 s2 s3
 go_enter Tryz.func27,Tryz.ntmps27
 go_wp2_with (first
  | (refine wpList_putIn _ _ rfl _ _ _ rfl Tryz.underlying60 Tryz.underlying9 _ _ rfl (by assumption) _ rfl _ rfl (by kernel_rfl) ?_;intro w_ h_2;(try clear hM);(try clear h_);have h_:=h_2;clear h_2;have l_:=low3 h_ hW1 hW2 hW3;(try clear g1 g2 g3 g4 g5 g6);have g1:=cells_at (l_ _ _ K1.out) 0;have g2:=cells_at (l_ _ _ K1.out) 1;have g3:=cells_at (l_ _ _ K2.out) 0;have g4:=cells_at (l_ _ _ K2.out) 1;have g5:=cells_at (l_ _ _ K3.out) 0;have g6:=cells_at (l_ _ _ K3.out) 1;clear l_))
 go_ret
 refine ⟨_,rfl,?_,?_,?_⟩
 · have hm:=h_.map
   exact hm
 · have:=h_.low
   have hb:=B03.out
   rw [hW3,hW2,hW1] at hb
   exact below_then hb this
 · have:=h_.new
   simp at this
   omega
end Go.Proofs.YtfdmdmahddjjmaaGreatDoor
