/-
  The reference: an item.
-/
import Derived.Test.YtfdmdmahddjjmaaGreatDoorPkRf
import Derived.Test.YtfdmdmahddjjmaaGreatDoorPkIm2
set_option linter.unusedVariables false
set_option linter.unusedSimpArgs false
set_option maxRecDepth 100000
namespace Go.Proofs.YtfdmdmahddjjmaaGreatDoor
open Go.RowKit Own Im
attribute [local go_sem] str_toList str_size
theorem signR_bind {β:Type} {c:UInt8} {s:Bt} (F:Unit × Bt→Option β):(signR c s).bind F = (sign [c] s).bind fun t=>F ((),t):=by unfold signR;cases sign [c] s <;> rfl
theorem signR_map {β:Type} {c:UInt8} {s:Bt} (F:Unit × Bt→β):(signR c s).map F = (sign [c] s).map fun t=>F ((),t):=by unfold signR;cases sign [c] s <;> rfl
def itemE (pk:Bool) (lw:List Int × Int) (t:Bt):Option (It × Bt):=if Lib.hasPrefix t [60] = true then
  (signR 60 t).bind fun a0=>(number 0 4294967295 a0.2).bind fun a=>(signR 46 a.2).bind fun a1=>(number 1 4294967295 a1.2).bind fun b=>(signR 62 b.2).map fun z=>({ kind:=7,sec:=lw.1,what:=lw.2,peek:=pk,frm:=a.1,of:=b.1 },z.2)
 else some ({ kind:=7,sec:=lw.1,what:=lw.2,peek:=pk,of:=-1 },t)
def item7 (pk:Bool) (t:Bt):Option (It × Bt):=(signR 91 t).bind fun q0=>(section_ q0.2).bind fun q1=>(signR 93 q1.2).bind fun q2=>itemE pk q1.1 q2.2
theorem item_k {s wd t:Bt} (hw:Im.word s = (wd,t)):Im.item s = if kindOf itemKinds wd = 0 then none else if kindOf itemKinds wd ≠ 7 then some ({ kind:=kindOf itemKinds wd,of:=-1 },t) else item7 (decide (wd = [66,79,68,89,46,80,69,69,75])) t:=by
 unfold Im.item item7 itemE
 rw [hw]
 dsimp only
 simp only [signR_bind,signR_map,most]
 split
 · rfl
 split
 · rfl
 cases sign [91] t with
 | none=>rfl
 | some t =>
  simp only [Option.bind_some]
  cases section_ t with
  | none=>rfl
  | some q =>
   simp only [Option.bind_some]
   cases sign [93] q.2 with
   | none=>rfl
   | some t =>
    simp only [Option.bind_some,takes_one]
    cases hk:Lib.hasPrefix t [60] with
    | false=>simp
    | true =>
     have hs:sign [60] t = some (t.drop 1):=by unfold sign;rw [if_pos hk];rfl
     simp [hs]
theorem item_ways (wd:Bt):wd = [70,76,65,71,83]∨wd = [85,73,68]∨wd = [73,78,84,69,82,78,65,76,68,65,84,69]∨wd = [82,70,67,56,50,50,46,83,73,90,69]∨wd = [69,78,86,69,76,79,80,69]∨wd = [66,79,68,89,83,84,82,85,67,84,85,82,69]∨wd = [66,79,68,89]∨wd = [66,79,68,89,46,80,69,69,75]∨((wd == [70,76,65,71,83]) = false∧(wd == [85,73,68]) = false∧(wd == [73,78,84,69,82,78,65,76,68,65,84,69]) = false∧(wd == [82,70,67,56,50,50,46,83,73,90,69]) = false∧(wd == [69,78,86,69,76,79,80,69]) = false∧(wd == [66,79,68,89,83,84,82,85,67,84,85,82,69]) = false∧(wd == [66,79,68,89]) = false∧(wd == [66,79,68,89,46,80,69,69,75]) = false∧kindOf itemKinds wd = 0):=by
 by_cases h0:wd = [70,76,65,71,83]
 · exact .inl h0
 by_cases h1:wd = [85,73,68]
 · exact .inr (.inl h1)
 by_cases h2:wd = [73,78,84,69,82,78,65,76,68,65,84,69]
 · exact .inr (.inr (.inl h2))
 by_cases h3:wd = [82,70,67,56,50,50,46,83,73,90,69]
 · exact .inr (.inr (.inr (.inl h3)))
 by_cases h4:wd = [69,78,86,69,76,79,80,69]
 · exact .inr (.inr (.inr (.inr (.inl h4))))
 by_cases h5:wd = [66,79,68,89,83,84,82,85,67,84,85,82,69]
 · exact .inr (.inr (.inr (.inr (.inr (.inl h5)))))
 by_cases h6:wd = [66,79,68,89]
 · exact .inr (.inr (.inr (.inr (.inr (.inr (.inl h6))))))
 by_cases h7:wd = [66,79,68,89,46,80,69,69,75]
 · exact .inr (.inr (.inr (.inr (.inr (.inr (.inr (.inl h7)))))))
 refine .inr (.inr (.inr (.inr (.inr (.inr (.inr (.inr (⟨by simpa using h0,by simpa using h1,by simpa using h2,by simpa using h3,by simpa using h4,by simpa using h5,by simpa using h6,by simpa using h7,?_⟩))))))))
 unfold kindOf
 have:itemKinds.find? (fun p=>p.1 == wd) = none:=by
  rw [List.find?_eq_none]
  intro p hp
  simp only [itemKinds,List.mem_cons,List.not_mem_nil,or_false] at hp
  rcases hp with rfl | rfl | rfl | rfl | rfl | rfl | rfl | rfl
  · simpa using fun e=>h0 e.symm
  · simpa using fun e=>h1 e.symm
  · simpa using fun e=>h2 e.symm
  · simpa using fun e=>h3 e.symm
  · simpa using fun e=>h4 e.symm
  · simpa using fun e=>h5 e.symm
  · simpa using fun e=>h6 e.symm
  · simpa using fun e=>h7 e.symm
 rw [this]
 rfl
set_option maxHeartbeats 16000000 in
theorem ritem_small (b:Nat) (s:Bt) (bad:Bool) (w:World) (h:RtT w b s bad) (wd t:Bt) (hw:Im.word s = (wd,t)) (h7:kindOf itemKinds wd ≠ 7) :
  Calls Tryz.prog 112 #[.pointer (some ⟨b,0,none⟩)] w fun e w'=>Goes b w s bad (vItem w.heap.size) (Im.item s) e w':=by
 have hwd:=fun W hW=>rword_any b s bad W hW
 rw [hw] at hwd
 dsimp only at hwd
 have hle:=word_le s
 rw [hw] at hle
 dsimp only at hle
 have hblt:=h.lt
 have hdb:w.heap.size ≠ b:=by omega
 obtain ⟨R,hR⟩:∃ R,R = Im.item s:=⟨_,rfl⟩
 rw [← hR]
 have a1:Below w.heap.size w (w.alloc (.cells #[.int .i64 0,.slice none 0 0,.int .i64 0,.bool false,.int .i64 0,.int .i64 0] 37)):=(Below.refl _ _).alloc (Nat.le_refl _) _
 have R1:=hid (h.below a1)
 have O1:=hid (Only.of a1 (Nat.le_of_lt hblt))
 have Z1:Hid (ItAt (w.alloc (.cells #[.int .i64 0,.slice none 0 0,.int .i64 0,.bool false,.int .i64 0,.int .i64 0] 37)) w.heap.size 0 (.slice none 0 0) 0 false 0 0):=hid (heap_alloc_new w _)
 have II:=hid ((Inv.start bad R).to fun _=>hR.trans (item_k hw))
 clear h hR a1 hw
 rcases item_ways wd with rfl | rfl | rfl | rfl | rfl | rfl | rfl | rfl | ⟨e0,e1,e2,e3,e4,e5,e6,e7,hk⟩
 · have I2:=hid (II.out.to (K':=some ({ kind:=1,of:=-1 },t)) fun _=>by rw [if_neg (by decide),if_pos (by decide)];rfl)
   clear II h7
   go_enter Tryz.func112,Tryz.ntmps112
   go_wp2_with (go_at_call 32;refine (hwd _ R1.out).mono ?_;rintro e w2 ⟨rfl,r2,o2⟩;have a2:=(Below.refl w2.heap.size w2).alloc (Nat.le_refl _) (.cells #[.int .i64 1,.slice none 0 0,.int .i64 0,.bool false,.int .i64 0,.int .i64 (-1)] 37);have hbc:b < w2.heap.size:=r2.lt;have hcb:w2.heap.size ≠ b:=(by omega);have hdc:w.heap.size ≠ w2.heap.size:=(by have:=o2.size;simp at this;omega);have hwc:w.heap.size ≤ w2.heap.size:=(by have:=o2.size;simp at this;omega);have z2:=(Z1.out.only o2 hdb).below a2;have y0:=z2.c0;have yf0:=z2.free 0;have y1:=z2.c1;have yf1:=z2.free 1;have y2:=z2.c2;have yf2:=z2.free 2;have y3:=z2.c3;have yf3:=z2.free 3;have y4:=z2.c4;have yf4:=z2.free 4;have y5:=z2.c5;have yf5:=z2.free 5;have R2:=hid (r2.below a2);have b1:=R2.out.c1;have bf:=R2.out.free 1;have O2:=hid (O1.out.trans (o2.trans (Only.of a2 (Nat.le_of_lt r2.lt))));have K2:Hid (ItAt (w2.alloc (.cells #[.int .i64 1,.slice none 0 0,.int .i64 0,.bool false,.int .i64 0,.int .i64 (-1)] 37)) w2.heap.size 1 (.slice none 0 0) 0 false 0 (-1)):=hid (heap_alloc_new w2 _);have Z2:=hid z2;clear r2 o2 a2 z2)
   refine bodyPost_ret (v:=.agg #[.int .i64 1,.slice none 0 0,.int .i64 0,.bool false,.int .i64 0,.int .i64 (-1)]) (by first | (simp [results,Tryz.results112,go_sem,y0,y1,y2,y3,y4,y5];done) | (simp [results,Tryz.results112,go_sem,y0,y1,y2,y3,y4,y5];rfl)) rfl ?_
   exact ⟨_,{ kind:=1,of:=-1 },t,bad,rfl,⟨_,rfl,GBuf.nil (by have:=O2.out.size;simpa [World.setCell] using this)⟩,((((((R2.out.far hblt _).far hblt _).far hblt _).far hblt _).far hblt _).far hblt _),hle,((((((O2.out.setNew hblt (Nat.le_refl _) _).setNew hblt (Nat.le_refl _) _).setNew hblt (Nat.le_refl _) _).setNew hblt (Nat.le_refl _) _).setNew hblt (Nat.le_refl _) _).setNew hblt (Nat.le_refl _) _),I2.out.out⟩
 · have I2:=hid (II.out.to (K':=some ({ kind:=2,of:=-1 },t)) fun _=>by rw [if_neg (by decide),if_pos (by decide)];rfl)
   clear II h7
   go_enter Tryz.func112,Tryz.ntmps112
   go_wp2_with (go_at_call 32;refine (hwd _ R1.out).mono ?_;rintro e w2 ⟨rfl,r2,o2⟩;have a2:=(Below.refl w2.heap.size w2).alloc (Nat.le_refl _) (.cells #[.int .i64 2,.slice none 0 0,.int .i64 0,.bool false,.int .i64 0,.int .i64 (-1)] 37);have hbc:b < w2.heap.size:=r2.lt;have hcb:w2.heap.size ≠ b:=(by omega);have hdc:w.heap.size ≠ w2.heap.size:=(by have:=o2.size;simp at this;omega);have hwc:w.heap.size ≤ w2.heap.size:=(by have:=o2.size;simp at this;omega);have z2:=(Z1.out.only o2 hdb).below a2;have y0:=z2.c0;have yf0:=z2.free 0;have y1:=z2.c1;have yf1:=z2.free 1;have y2:=z2.c2;have yf2:=z2.free 2;have y3:=z2.c3;have yf3:=z2.free 3;have y4:=z2.c4;have yf4:=z2.free 4;have y5:=z2.c5;have yf5:=z2.free 5;have R2:=hid (r2.below a2);have b1:=R2.out.c1;have bf:=R2.out.free 1;have O2:=hid (O1.out.trans (o2.trans (Only.of a2 (Nat.le_of_lt r2.lt))));have K2:Hid (ItAt (w2.alloc (.cells #[.int .i64 2,.slice none 0 0,.int .i64 0,.bool false,.int .i64 0,.int .i64 (-1)] 37)) w2.heap.size 2 (.slice none 0 0) 0 false 0 (-1)):=hid (heap_alloc_new w2 _);have Z2:=hid z2;clear r2 o2 a2 z2)
   refine bodyPost_ret (v:=.agg #[.int .i64 2,.slice none 0 0,.int .i64 0,.bool false,.int .i64 0,.int .i64 (-1)]) (by first | (simp [results,Tryz.results112,go_sem,y0,y1,y2,y3,y4,y5];done) | (simp [results,Tryz.results112,go_sem,y0,y1,y2,y3,y4,y5];rfl)) rfl ?_
   exact ⟨_,{ kind:=2,of:=-1 },t,bad,rfl,⟨_,rfl,GBuf.nil (by have:=O2.out.size;simpa [World.setCell] using this)⟩,((((((R2.out.far hblt _).far hblt _).far hblt _).far hblt _).far hblt _).far hblt _),hle,((((((O2.out.setNew hblt (Nat.le_refl _) _).setNew hblt (Nat.le_refl _) _).setNew hblt (Nat.le_refl _) _).setNew hblt (Nat.le_refl _) _).setNew hblt (Nat.le_refl _) _).setNew hblt (Nat.le_refl _) _),I2.out.out⟩
 · have I2:=hid (II.out.to (K':=some ({ kind:=3,of:=-1 },t)) fun _=>by rw [if_neg (by decide),if_pos (by decide)];rfl)
   clear II h7
   go_enter Tryz.func112,Tryz.ntmps112
   go_wp2_with (go_at_call 32;refine (hwd _ R1.out).mono ?_;rintro e w2 ⟨rfl,r2,o2⟩;have a2:=(Below.refl w2.heap.size w2).alloc (Nat.le_refl _) (.cells #[.int .i64 3,.slice none 0 0,.int .i64 0,.bool false,.int .i64 0,.int .i64 (-1)] 37);have hbc:b < w2.heap.size:=r2.lt;have hcb:w2.heap.size ≠ b:=(by omega);have hdc:w.heap.size ≠ w2.heap.size:=(by have:=o2.size;simp at this;omega);have hwc:w.heap.size ≤ w2.heap.size:=(by have:=o2.size;simp at this;omega);have z2:=(Z1.out.only o2 hdb).below a2;have y0:=z2.c0;have yf0:=z2.free 0;have y1:=z2.c1;have yf1:=z2.free 1;have y2:=z2.c2;have yf2:=z2.free 2;have y3:=z2.c3;have yf3:=z2.free 3;have y4:=z2.c4;have yf4:=z2.free 4;have y5:=z2.c5;have yf5:=z2.free 5;have R2:=hid (r2.below a2);have b1:=R2.out.c1;have bf:=R2.out.free 1;have O2:=hid (O1.out.trans (o2.trans (Only.of a2 (Nat.le_of_lt r2.lt))));have K2:Hid (ItAt (w2.alloc (.cells #[.int .i64 3,.slice none 0 0,.int .i64 0,.bool false,.int .i64 0,.int .i64 (-1)] 37)) w2.heap.size 3 (.slice none 0 0) 0 false 0 (-1)):=hid (heap_alloc_new w2 _);have Z2:=hid z2;clear r2 o2 a2 z2)
   refine bodyPost_ret (v:=.agg #[.int .i64 3,.slice none 0 0,.int .i64 0,.bool false,.int .i64 0,.int .i64 (-1)]) (by first | (simp [results,Tryz.results112,go_sem,y0,y1,y2,y3,y4,y5];done) | (simp [results,Tryz.results112,go_sem,y0,y1,y2,y3,y4,y5];rfl)) rfl ?_
   exact ⟨_,{ kind:=3,of:=-1 },t,bad,rfl,⟨_,rfl,GBuf.nil (by have:=O2.out.size;simpa [World.setCell] using this)⟩,((((((R2.out.far hblt _).far hblt _).far hblt _).far hblt _).far hblt _).far hblt _),hle,((((((O2.out.setNew hblt (Nat.le_refl _) _).setNew hblt (Nat.le_refl _) _).setNew hblt (Nat.le_refl _) _).setNew hblt (Nat.le_refl _) _).setNew hblt (Nat.le_refl _) _).setNew hblt (Nat.le_refl _) _),I2.out.out⟩
 · have I2:=hid (II.out.to (K':=some ({ kind:=4,of:=-1 },t)) fun _=>by rw [if_neg (by decide),if_pos (by decide)];rfl)
   clear II h7
   go_enter Tryz.func112,Tryz.ntmps112
   go_wp2_with (go_at_call 32;refine (hwd _ R1.out).mono ?_;rintro e w2 ⟨rfl,r2,o2⟩;have a2:=(Below.refl w2.heap.size w2).alloc (Nat.le_refl _) (.cells #[.int .i64 4,.slice none 0 0,.int .i64 0,.bool false,.int .i64 0,.int .i64 (-1)] 37);have hbc:b < w2.heap.size:=r2.lt;have hcb:w2.heap.size ≠ b:=(by omega);have hdc:w.heap.size ≠ w2.heap.size:=(by have:=o2.size;simp at this;omega);have hwc:w.heap.size ≤ w2.heap.size:=(by have:=o2.size;simp at this;omega);have z2:=(Z1.out.only o2 hdb).below a2;have y0:=z2.c0;have yf0:=z2.free 0;have y1:=z2.c1;have yf1:=z2.free 1;have y2:=z2.c2;have yf2:=z2.free 2;have y3:=z2.c3;have yf3:=z2.free 3;have y4:=z2.c4;have yf4:=z2.free 4;have y5:=z2.c5;have yf5:=z2.free 5;have R2:=hid (r2.below a2);have b1:=R2.out.c1;have bf:=R2.out.free 1;have O2:=hid (O1.out.trans (o2.trans (Only.of a2 (Nat.le_of_lt r2.lt))));have K2:Hid (ItAt (w2.alloc (.cells #[.int .i64 4,.slice none 0 0,.int .i64 0,.bool false,.int .i64 0,.int .i64 (-1)] 37)) w2.heap.size 4 (.slice none 0 0) 0 false 0 (-1)):=hid (heap_alloc_new w2 _);have Z2:=hid z2;clear r2 o2 a2 z2)
   refine bodyPost_ret (v:=.agg #[.int .i64 4,.slice none 0 0,.int .i64 0,.bool false,.int .i64 0,.int .i64 (-1)]) (by first | (simp [results,Tryz.results112,go_sem,y0,y1,y2,y3,y4,y5];done) | (simp [results,Tryz.results112,go_sem,y0,y1,y2,y3,y4,y5];rfl)) rfl ?_
   exact ⟨_,{ kind:=4,of:=-1 },t,bad,rfl,⟨_,rfl,GBuf.nil (by have:=O2.out.size;simpa [World.setCell] using this)⟩,((((((R2.out.far hblt _).far hblt _).far hblt _).far hblt _).far hblt _).far hblt _),hle,((((((O2.out.setNew hblt (Nat.le_refl _) _).setNew hblt (Nat.le_refl _) _).setNew hblt (Nat.le_refl _) _).setNew hblt (Nat.le_refl _) _).setNew hblt (Nat.le_refl _) _).setNew hblt (Nat.le_refl _) _),I2.out.out⟩
 · have I2:=hid (II.out.to (K':=some ({ kind:=5,of:=-1 },t)) fun _=>by rw [if_neg (by decide),if_pos (by decide)];rfl)
   clear II h7
   go_enter Tryz.func112,Tryz.ntmps112
   go_wp2_with (go_at_call 32;refine (hwd _ R1.out).mono ?_;rintro e w2 ⟨rfl,r2,o2⟩;have a2:=(Below.refl w2.heap.size w2).alloc (Nat.le_refl _) (.cells #[.int .i64 5,.slice none 0 0,.int .i64 0,.bool false,.int .i64 0,.int .i64 (-1)] 37);have hbc:b < w2.heap.size:=r2.lt;have hcb:w2.heap.size ≠ b:=(by omega);have hdc:w.heap.size ≠ w2.heap.size:=(by have:=o2.size;simp at this;omega);have hwc:w.heap.size ≤ w2.heap.size:=(by have:=o2.size;simp at this;omega);have z2:=(Z1.out.only o2 hdb).below a2;have y0:=z2.c0;have yf0:=z2.free 0;have y1:=z2.c1;have yf1:=z2.free 1;have y2:=z2.c2;have yf2:=z2.free 2;have y3:=z2.c3;have yf3:=z2.free 3;have y4:=z2.c4;have yf4:=z2.free 4;have y5:=z2.c5;have yf5:=z2.free 5;have R2:=hid (r2.below a2);have b1:=R2.out.c1;have bf:=R2.out.free 1;have O2:=hid (O1.out.trans (o2.trans (Only.of a2 (Nat.le_of_lt r2.lt))));have K2:Hid (ItAt (w2.alloc (.cells #[.int .i64 5,.slice none 0 0,.int .i64 0,.bool false,.int .i64 0,.int .i64 (-1)] 37)) w2.heap.size 5 (.slice none 0 0) 0 false 0 (-1)):=hid (heap_alloc_new w2 _);have Z2:=hid z2;clear r2 o2 a2 z2)
   refine bodyPost_ret (v:=.agg #[.int .i64 5,.slice none 0 0,.int .i64 0,.bool false,.int .i64 0,.int .i64 (-1)]) (by first | (simp [results,Tryz.results112,go_sem,y0,y1,y2,y3,y4,y5];done) | (simp [results,Tryz.results112,go_sem,y0,y1,y2,y3,y4,y5];rfl)) rfl ?_
   exact ⟨_,{ kind:=5,of:=-1 },t,bad,rfl,⟨_,rfl,GBuf.nil (by have:=O2.out.size;simpa [World.setCell] using this)⟩,((((((R2.out.far hblt _).far hblt _).far hblt _).far hblt _).far hblt _).far hblt _),hle,((((((O2.out.setNew hblt (Nat.le_refl _) _).setNew hblt (Nat.le_refl _) _).setNew hblt (Nat.le_refl _) _).setNew hblt (Nat.le_refl _) _).setNew hblt (Nat.le_refl _) _).setNew hblt (Nat.le_refl _) _),I2.out.out⟩
 · have I2:=hid (II.out.to (K':=some ({ kind:=6,of:=-1 },t)) fun _=>by rw [if_neg (by decide),if_pos (by decide)];rfl)
   clear II h7
   go_enter Tryz.func112,Tryz.ntmps112
   go_wp2_with (go_at_call 32;refine (hwd _ R1.out).mono ?_;rintro e w2 ⟨rfl,r2,o2⟩;have a2:=(Below.refl w2.heap.size w2).alloc (Nat.le_refl _) (.cells #[.int .i64 6,.slice none 0 0,.int .i64 0,.bool false,.int .i64 0,.int .i64 (-1)] 37);have hbc:b < w2.heap.size:=r2.lt;have hcb:w2.heap.size ≠ b:=(by omega);have hdc:w.heap.size ≠ w2.heap.size:=(by have:=o2.size;simp at this;omega);have hwc:w.heap.size ≤ w2.heap.size:=(by have:=o2.size;simp at this;omega);have z2:=(Z1.out.only o2 hdb).below a2;have y0:=z2.c0;have yf0:=z2.free 0;have y1:=z2.c1;have yf1:=z2.free 1;have y2:=z2.c2;have yf2:=z2.free 2;have y3:=z2.c3;have yf3:=z2.free 3;have y4:=z2.c4;have yf4:=z2.free 4;have y5:=z2.c5;have yf5:=z2.free 5;have R2:=hid (r2.below a2);have b1:=R2.out.c1;have bf:=R2.out.free 1;have O2:=hid (O1.out.trans (o2.trans (Only.of a2 (Nat.le_of_lt r2.lt))));have K2:Hid (ItAt (w2.alloc (.cells #[.int .i64 6,.slice none 0 0,.int .i64 0,.bool false,.int .i64 0,.int .i64 (-1)] 37)) w2.heap.size 6 (.slice none 0 0) 0 false 0 (-1)):=hid (heap_alloc_new w2 _);have Z2:=hid z2;clear r2 o2 a2 z2)
   refine bodyPost_ret (v:=.agg #[.int .i64 6,.slice none 0 0,.int .i64 0,.bool false,.int .i64 0,.int .i64 (-1)]) (by first | (simp [results,Tryz.results112,go_sem,y0,y1,y2,y3,y4,y5];done) | (simp [results,Tryz.results112,go_sem,y0,y1,y2,y3,y4,y5];rfl)) rfl ?_
   exact ⟨_,{ kind:=6,of:=-1 },t,bad,rfl,⟨_,rfl,GBuf.nil (by have:=O2.out.size;simpa [World.setCell] using this)⟩,((((((R2.out.far hblt _).far hblt _).far hblt _).far hblt _).far hblt _).far hblt _),hle,((((((O2.out.setNew hblt (Nat.le_refl _) _).setNew hblt (Nat.le_refl _) _).setNew hblt (Nat.le_refl _) _).setNew hblt (Nat.le_refl _) _).setNew hblt (Nat.le_refl _) _).setNew hblt (Nat.le_refl _) _),I2.out.out⟩
 · exact absurd (by decide) h7
 · exact absurd (by decide) h7
 · have I2:=hid (II.out.to (K':=none) fun _=>by rw [if_pos hk])
   clear II h7 hk
   go_enter Tryz.func112,Tryz.ntmps112
   go_upto_region 30 with (go_at_call 32;refine (hwd _ R1.out).mono ?_;rintro e w2 ⟨rfl,r2,o2⟩;have a2:=(Below.refl w2.heap.size w2).alloc (Nat.le_refl _) (.cells #[.int .i64 0,.slice none 0 0,.int .i64 0,.bool false,.int .i64 0,.int .i64 (-1)] 37);have b1:=(r2.below a2).c1;have bf:=(r2.below a2).free 1;have hcb:w2.heap.size ≠ b:=(by have:=r2.lt;omega);have hwc:w.heap.size ≤ w2.heap.size:=(by have:=o2.size;simp at this;omega);have Z3:=hid (((Z1.out.only o2 hdb).below a2).far hdb (j:=1) (.bool true));have K3:=hid (ItAt.far (show ItAt (w2.alloc (.cells #[.int .i64 0,.slice none 0 0,.int .i64 0,.bool false,.int .i64 0,.int .i64 (-1)] 37)) w2.heap.size 0 (.slice none 0 0) 0 false 0 (-1) from heap_alloc_new w2 _) hcb (j:=1) (.bool true));have R2:=hid ((r2.below a2).set1 true);have O2:=hid (O1.out.trans ((o2.trans (Only.of a2 (Nat.le_of_lt r2.lt))).trans (Only.set _ b 1 (.bool true))));clear r2 o2 a2)
   obtain ⟨W3,hW3⟩:∃ W,W = (w2.alloc (.cells #[.int .i64 0,.slice none 0 0,.int .i64 0,.bool false,.int .i64 0,.int .i64 (-1)] 37)).setCell ⟨b,1,none⟩ (.bool true):=⟨_,rfl⟩
   rw [← hW3] at Z3 K3 R2 O2
   rw [← hW3]
   clear hW3
   have z3:=Z3.out
   have k3:=K3.out
   have y0:=z3.c0
   have yf0:=z3.free 0
   have y1:=z3.c1
   have yf1:=z3.free 1
   have y2:=z3.c2
   have yf2:=z3.free 2
   have y3:=z3.c3
   have yf3:=z3.free 3
   have y4:=z3.c4
   have yf4:=z3.free 4
   have y5:=z3.c5
   have yf5:=z3.free 5
   have x0:=k3.c0
   have xf0:=k3.free 0
   have x1:=k3.c1
   have xf1:=k3.free 1
   have x2:=k3.c2
   have xf2:=k3.free 2
   have x3:=k3.c3
   have xf3:=k3.free 3
   have x4:=k3.c4
   have xf4:=k3.free 4
   have x5:=k3.c5
   have xf5:=k3.free 5
   clear z3 k3
   go_wp2_with fail
   refine bodyPost_ret (v:=.agg #[.int .i64 0,.slice none 0 0,.int .i64 0,.bool false,.int .i64 0,.int .i64 (-1)]) (by first | (simp [results,Tryz.results112,go_sem,y0,y1,y2,y3,y4,y5];done) | (simp [results,Tryz.results112,go_sem,y0,y1,y2,y3,y4,y5];rfl)) rfl ?_
   exact ⟨_,{ of:=-1 },t,true,rfl,⟨_,rfl,GBuf.nil (by have:=O2.out.size;simpa [World.setCell] using this)⟩,((((((R2.out.far hblt _).far hblt _).far hblt _).far hblt _).far hblt _).far hblt _),hle,((((((O2.out.setNew hblt (Nat.le_refl _) _).setNew hblt (Nat.le_refl _) _).setNew hblt (Nat.le_refl _) _).setNew hblt (Nat.le_refl _) _).setNew hblt (Nat.le_refl _) _).setNew hblt (Nat.le_refl _) _),(Inv.fault I2.out).out⟩
set_option maxHeartbeats 16000000 in
theorem ritem_body (b:Nat) (s:Bt) (bad:Bool) (w:World) (h:RtT w b s bad) (t:Bt) (hw:Im.word s = ([66,79,68,89],t)) :
  Calls Tryz.prog 112 #[.pointer (some ⟨b,0,none⟩)] w fun e w'=>Goes b w s bad (vItem w.heap.size) (Im.item s) e w':=by
 have hwd:=fun W hW=>rword_any b s bad W hW
 rw [hw] at hwd
 dsimp only at hwd
 have hle:=word_le s
 rw [hw] at hle
 dsimp only at hle
 have hblt:=h.lt
 have hdb:w.heap.size ≠ b:=by omega
 obtain ⟨R,hR⟩:∃ R,R = Im.item s:=⟨_,rfl⟩
 rw [← hR]
 have a1:Below w.heap.size w (w.alloc (.cells #[.int .i64 0,.slice none 0 0,.int .i64 0,.bool false,.int .i64 0,.int .i64 0] 37)):=(Below.refl _ _).alloc (Nat.le_refl _) _
 have R1:=hid (h.below a1)
 have O1:=hid (Only.of a1 (Nat.le_of_lt hblt))
 have Z1:Hid (ItAt (w.alloc (.cells #[.int .i64 0,.slice none 0 0,.int .i64 0,.bool false,.int .i64 0,.int .i64 0] 37)) w.heap.size 0 (.slice none 0 0) 0 false 0 0):=hid (heap_alloc_new w _)
 have II:=hid ((Inv.start bad R).to fun _=>hR.trans (item_k hw))
 clear h hR a1 hw
 have I2:=hid (II.out.to (K':=item7 false t) fun _=>by rw [if_neg (by decide),if_neg (by decide)];rfl)
 clear II
 have tok0:Tk 0:=⟨⟩
 go_enter Tryz.func112,Tryz.ntmps112
 go_wp2_with (first
  | (go_at_call 32;refine (hwd _ R1.out).mono ?_;rintro e w2 ⟨rfl,r2,o2⟩;have a2:=(Below.refl w2.heap.size w2).alloc (Nat.le_refl _) (.cells #[.int .i64 7,.slice none 0 0,.int .i64 0,.bool false,.int .i64 0,.int .i64 (-1)] 37);have hbc:b < w2.heap.size:=r2.lt;have hcb:w2.heap.size ≠ b:=(by omega);have hdc:w.heap.size ≠ w2.heap.size:=(by have:=o2.size;simp at this;omega);have hwc:w.heap.size ≤ w2.heap.size:=(by have:=o2.size;simp at this;omega);have z2:=(Z1.out.only o2 hdb).below a2;have y0:=z2.c0;have yf0:=z2.free 0;have y1:=z2.c1;have yf1:=z2.free 1;have y2:=z2.c2;have yf2:=z2.free 2;have y3:=z2.c3;have yf3:=z2.free 3;have y4:=z2.c4;have yf4:=z2.free 4;have y5:=z2.c5;have yf5:=z2.free 5;have R2:=hid (r2.below a2);have b1:=R2.out.c1;have bf:=R2.out.free 1;have O2:=hid (O1.out.trans (o2.trans (Only.of a2 (Nat.le_of_lt r2.lt))));have K2:Hid (ItAt (w2.alloc (.cells #[.int .i64 7,.slice none 0 0,.int .i64 0,.bool false,.int .i64 0,.int .i64 (-1)] 37)) w2.heap.size 7 (.slice none 0 0) 0 false 0 (-1)):=hid (heap_alloc_new w2 _);have Z2:=hid z2;clear r2 o2 a2 z2)
  | (go_at_call 72;have t_:Tk 0:=‹Tk 0›;refine (rsign_any 91 91 rfl b t bad _ R2.out).mono ?_;rintro e w3 ⟨v3,a3,s3,d3,rfl,rfl,r3,l3,o3,t3⟩;have I3:=hid (Inv.step (show Inv bad R bad ((signR 91 t).bind fun q0=>(section_ q0.2).bind fun q1=>(signR 93 q1.2).bind fun q2=>itemE false q1.1 q2.2) from I2.out) t3);have R3:=hid r3;have L3:=hid l3;have T3:=hid t3;have O3:=hid (O2.out.trans o3);have k3:=K2.out.only o3 hcb;have z3:=Z2.out.only o3 hdb;have K3:=hid k3;have Z3:=hid z3;have Y3:=hid o3;clear r3 l3 t3 o3 k3 z3 <;> (clear t_ tok0;have tok1:Tk 1:=⟨⟩))
  | (go_at_call 143;have t_:Tk 1:=‹Tk 1›;refine (rsection_any b w2.heap.size s3 d3 _ 7 false 0 (-1) R3.out K3.out hbc).mono ?_;rintro e w4 ⟨sec,wh,s4,d4,sv4,rfl,r4,l4,o4,n4,k4,t4⟩;obtain ⟨A4,m4,c4,rfl,hm4⟩:=NBuf.slc n4;have I4:=hid (Inv.step (show Inv bad R d3 ((section_ s3).bind fun q1=>(signR 93 q1.2).bind fun q2=>itemE false q1.1 q2.2) from I3.out) t4);have R4:=hid r4;have L4:=hid l4;have O4:=hid (O3.out.two_trans o4 hwc);have Z4:=hid (Z3.out.two o4 hdb hdc);have K4:=hid k4;have N4:=hid n4;have HM:=hid hm4;clear r4 l4 o4 n4 k4 t4 hm4 <;> (clear t_ tok1;have tok2:Tk 2:=⟨⟩))
  | (go_at_call 72;have t_:Tk 2:=‹Tk 2›;refine (rsign_any 93 93 rfl b s4 d4 _ R4.out).mono ?_;rintro e w5 ⟨v5,a5,s5,d5,rfl,rfl,r5,l5,o5,t5⟩;have I5:=hid (Inv.step (show Inv bad R d4 ((signR 93 s4).bind fun q2=>itemE false (sec,wh) q2.2) from I4.out) t5);have R5:=hid r5;have L5:=hid l5;have T5:=hid t5;have O5:=hid (O4.out.trans o5);have k5:=K4.out.only o5 hcb;have z5:=Z4.out.only o5 hdb;have p0:=k5.c0;have pf0:=k5.free 0;have p1:=k5.c1;have pf1:=k5.free 1;have p2:=k5.c2;have pf2:=k5.free 2;have p3:=k5.c3;have pf3:=k5.free 3;have p4:=k5.c4;have pf4:=k5.free 4;have p5:=k5.c5;have pf5:=k5.free 5;have y0:=z5.c0;have yf0:=z5.free 0;have y1:=z5.c1;have yf1:=z5.free 1;have y2:=z5.c2;have yf2:=z5.free 2;have y3:=z5.c3;have yf3:=z5.free 3;have y4:=z5.c4;have yf4:=z5.free 4;have y5:=z5.c5;have yf5:=z5.free 5;have K5:=hid k5;have Z5:=hid z5;have Y5:=hid o5;clear r5 l5 t5 o5 k5 z5 <;> (clear t_ tok2;have tok3:Tk 3:=⟨⟩))
  | (go_at_call 33;have t_:Tk 3:=‹Tk 3›;obtain ⟨k6,hk6⟩:∃ k6,Lib.hasPrefix s5 [60] = k6:=⟨_,rfl⟩;have hse:=rsees_any 60 60 rfl b s5 d5 _ R5.out;rw [hk6] at hse;refine hse.mono ?_;clear hse;rintro e w6 ⟨rfl,he⟩;obtain rfl:=he.symm;have HK6:=hid hk6;clear hk6;cases k6 <;> (clear t_ tok3;have tok4:Tk 4:=⟨⟩))
  | (go_at_call 72;have t_:Tk 4:=‹Tk 4›;have J7:=hid ((show Inv bad R d5 (itemE false (sec,wh) s5) from I5.out).to (K':=(signR 60 s5).bind fun a0=>(number 0 4294967295 a0.2).bind fun a=>(signR 46 a.2).bind fun a1=>(number 1 4294967295 a1.2).bind fun b=>(signR 62 b.2).map fun z=>(({ kind:=7,sec:=sec,what:=wh,peek:=false,frm:=a.1,of:=b.1 }:It),z.2)) fun _=>by unfold itemE;rw [if_pos HK6.out]);refine (rsign_any 60 60 rfl b s5 d5 _ R5.out).mono ?_;rintro e w7 ⟨v7,a7,s7,d7,rfl,rfl,r7,l7,o7,t7⟩;have I7:=hid (J7.out.step t7);have R7:=hid r7;have L7:=hid l7;have O7:=hid (O5.out.trans o7);have K7:=hid (K5.out.only o7 hcb);have Z7:=hid (Z5.out.only o7 hdb);have Y7:=hid o7;clear r7 l7 o7 t7 <;> (clear t_ tok4;have tok5:Tk 5:=⟨⟩))
  | (go_at_call 113;have t_:Tk 5:=‹Tk 5›;refine (rnum_any b s7 0 4294967295 d7 _ R7.out).mono ?_;rintro e w8 ⟨v8,n8,s8,d8,rfl,rfl,r8,l8,o8,t8⟩;have k8:=K7.out.only o8 hcb;have u8:=k8.c4;have g8:=k8.free 4;have I8:=hid (Inv.step (show Inv bad R d7 ((number 0 4294967295 s7).bind fun a=>(signR 46 a.2).bind fun a1=>(number 1 4294967295 a1.2).bind fun b=>(signR 62 b.2).map fun z=>(({ kind:=7,sec:=sec,what:=wh,peek:=false,frm:=a.1,of:=b.1 }:It),z.2)) from I7.out) t8);have R8:=hid (r8.far hbc (j:=4) (.int .i64 n8));have L8:=hid l8;have O8:=hid ((O7.out.trans o8).setNew hblt hwc (j:=4) (.int .i64 n8));have K8:=hid (k8.set4 n8);have Z8:=hid ((Z7.out.only o8 hdb).far hdc (j:=4) (.int .i64 n8));have Y8:=hid o8;clear r8 l8 o8 t8 k8 <;> (clear t_ tok5;have tok6:Tk 6:=⟨⟩))
  | (go_at_call 72;have t_:Tk 6:=‹Tk 6›;refine (rsign_any 46 46 rfl b s8 d8 _ R8.out).mono ?_;rintro e w9 ⟨v9,a9,s9,d9,rfl,rfl,r9,l9,o9,t9⟩;have I9:=hid (Inv.step (show Inv bad R d8 ((signR 46 s8).bind fun a1=>(number 1 4294967295 a1.2).bind fun b=>(signR 62 b.2).map fun z=>(({ kind:=7,sec:=sec,what:=wh,peek:=false,frm:=n8,of:=b.1 }:It),z.2)) from I8.out) t9);have R9:=hid r9;have L9:=hid l9;have T9:=hid t9;have O9:=hid (O8.out.trans o9);have k9:=K8.out.only o9 hcb;have z9:=Z8.out.only o9 hdb;have K9:=hid k9;have Z9:=hid z9;have Y9:=hid o9;clear r9 l9 t9 o9 k9 z9 <;> (clear t_ tok6;have tok7:Tk 7:=⟨⟩))
  | (go_at_call 113;have t_:Tk 7:=‹Tk 7›;refine (rnum_any b s9 1 4294967295 d9 _ R9.out).mono ?_;rintro e w10 ⟨v10,n10,s10,d10,rfl,rfl,r10,l10,o10,t10⟩;have k10:=K9.out.only o10 hcb;have u10:=k10.c5;have g10:=k10.free 5;have I10:=hid (Inv.step (show Inv bad R d9 ((number 1 4294967295 s9).bind fun b=>(signR 62 b.2).map fun z=>(({ kind:=7,sec:=sec,what:=wh,peek:=false,frm:=n8,of:=b.1 }:It),z.2)) from I9.out) t10);have R10:=hid (r10.far hbc (j:=5) (.int .i64 n10));have L10:=hid l10;have O10:=hid ((O9.out.trans o10).setNew hblt hwc (j:=5) (.int .i64 n10));have K10:=hid (k10.set5 n10);have Z10:=hid ((Z9.out.only o10 hdb).far hdc (j:=5) (.int .i64 n10));have Y10:=hid o10;clear r10 l10 o10 t10 k10 <;> (clear t_ tok7;have tok8:Tk 8:=⟨⟩))
  | (go_at_call 72;have t_:Tk 8:=‹Tk 8›;refine (rsign_any 62 62 rfl b s10 d10 _ R10.out).mono ?_;rintro e w11 ⟨v11,a11,s11,d11,rfl,rfl,r11,l11,o11,t11⟩;have I11:=hid (Inv.map (show Inv bad R d10 ((signR 62 s10).map fun z=>(({ kind:=7,sec:=sec,what:=wh,peek:=false,frm:=n8,of:=n10 }:It),z.2)) from I10.out) t11);have R11:=hid r11;have L11:=hid l11;have O11:=hid (O10.out.trans o11);have k11:=K10.out.only o11 hcb;have z11:=Z10.out.only o11 hdb;have p0:=k11.c0;have pf0:=k11.free 0;have p1:=k11.c1;have pf1:=k11.free 1;have p2:=k11.c2;have pf2:=k11.free 2;have p3:=k11.c3;have pf3:=k11.free 3;have p4:=k11.c4;have pf4:=k11.free 4;have p5:=k11.c5;have pf5:=k11.free 5;have y0:=z11.c0;have yf0:=z11.free 0;have y1:=z11.c1;have yf1:=z11.free 1;have y2:=z11.c2;have yf2:=z11.free 2;have y3:=z11.c3;have yf3:=z11.free 3;have y4:=z11.c4;have yf4:=z11.free 4;have y5:=z11.c5;have yf5:=z11.free 5;have K11:=hid k11;have Z11:=hid z11;have Y11:=hid o11;clear r11 l11 o11 t11 k11 z11 <;> (clear t_ tok8;have tok9:Tk 9:=⟨⟩)))
 · have I6:=hid (I5.out.to (K':=some ({ kind:=7,sec:=sec,what:=wh,peek:=false,of:=-1 },s5)) fun _=>by unfold itemE;rw [if_neg (by rw [HK6.out];simp)])
   have hb3:b + 1 ≤ w3.heap.size:=R3.out.lt
   have hc3:w2.heap.size + 1 ≤ w3.heap.size:=K3.out.lt
   have hd3:w.heap.size + 1 ≤ w3.heap.size:=Z3.out.lt
   have hw3:w.heap.size ≤ w3.heap.size:=by omega
   have hl3:=L3.out
   have hl4:=L4.out
   have hl5:=L5.out
   have hm:=HM.out
   subst hm
   have N6:=(GBuf.stays N4.out (Y5.out.stays hb3))
   refine bodyPost_ret (v:=.agg #[.int .i64 7,.slice A4 sec.length c4,.int .i64 wh,.bool false,.int .i64 0,.int .i64 (-1)]) (by first | (simp [results,Tryz.results112,go_sem,y0,y1,y2,y3,y4,y5];done) | (simp [results,Tryz.results112,go_sem,y0,y1,y2,y3,y4,y5];rfl)) rfl ?_
   exact ⟨_,{ kind:=7,sec:=sec,what:=wh,peek:=false,of:=-1 },s5,d5,rfl,⟨_,rfl,GBuf.mono (GBuf.stays (GBuf.stays (GBuf.stays (GBuf.stays (GBuf.stays (GBuf.stays N6 ((setStays _ _ _ _).mono hd3)) ((setStays _ _ _ _).mono hd3)) ((setStays _ _ _ _).mono hd3)) ((setStays _ _ _ _).mono hd3)) ((setStays _ _ _ _).mono hd3)) ((setStays _ _ _ _).mono hd3)) hw3⟩,((((((R5.out.far hblt _).far hblt _).far hblt _).far hblt _).far hblt _).far hblt _),by omega,((((((O5.out.setNew hblt (Nat.le_refl _) _).setNew hblt (Nat.le_refl _) _).setNew hblt (Nat.le_refl _) _).setNew hblt (Nat.le_refl _) _).setNew hblt (Nat.le_refl _) _).setNew hblt (Nat.le_refl _) _),I6.out.out⟩
 · have hl7:=L7.out
   have hl8:=L8.out
   have hl9:=L9.out
   have hl10:=L10.out
   have hl11:=L11.out
   have hb3:b + 1 ≤ w3.heap.size:=R3.out.lt
   have hc3:w2.heap.size + 1 ≤ w3.heap.size:=K3.out.lt
   have hd3:w.heap.size + 1 ≤ w3.heap.size:=Z3.out.lt
   have hw3:w.heap.size ≤ w3.heap.size:=by omega
   have hl3:=L3.out
   have hl4:=L4.out
   have hl5:=L5.out
   have hm:=HM.out
   subst hm
   have N6:=(GBuf.stays (GBuf.stays (GBuf.stays (GBuf.stays (GBuf.stays (GBuf.stays (GBuf.stays (GBuf.stays N4.out (Y5.out.stays hb3)) (Y7.out.stays hb3)) (Y8.out.stays hb3)) ((setStays _ _ _ _).mono hc3)) (Y9.out.stays hb3)) (Y10.out.stays hb3)) ((setStays _ _ _ _).mono hc3)) (Y11.out.stays hb3))
   refine bodyPost_ret (v:=.agg #[.int .i64 7,.slice A4 sec.length c4,.int .i64 wh,.bool false,.int .i64 n8,.int .i64 n10]) (by first | (simp [results,Tryz.results112,go_sem,y0,y1,y2,y3,y4,y5];done) | (simp [results,Tryz.results112,go_sem,y0,y1,y2,y3,y4,y5];rfl)) rfl ?_
   exact ⟨_,{ kind:=7,sec:=sec,what:=wh,peek:=false,frm:=n8,of:=n10 },s11,d11,rfl,⟨_,rfl,GBuf.mono (GBuf.stays (GBuf.stays (GBuf.stays (GBuf.stays (GBuf.stays (GBuf.stays N6 ((setStays _ _ _ _).mono hd3)) ((setStays _ _ _ _).mono hd3)) ((setStays _ _ _ _).mono hd3)) ((setStays _ _ _ _).mono hd3)) ((setStays _ _ _ _).mono hd3)) ((setStays _ _ _ _).mono hd3)) hw3⟩,((((((R11.out.far hblt _).far hblt _).far hblt _).far hblt _).far hblt _).far hblt _),by omega,((((((O11.out.setNew hblt (Nat.le_refl _) _).setNew hblt (Nat.le_refl _) _).setNew hblt (Nat.le_refl _) _).setNew hblt (Nat.le_refl _) _).setNew hblt (Nat.le_refl _) _).setNew hblt (Nat.le_refl _) _),I11.out.out⟩
set_option maxHeartbeats 16000000 in
theorem ritem_peek (b:Nat) (s:Bt) (bad:Bool) (w:World) (h:RtT w b s bad) (t:Bt) (hw:Im.word s = ([66,79,68,89,46,80,69,69,75],t)) :
  Calls Tryz.prog 112 #[.pointer (some ⟨b,0,none⟩)] w fun e w'=>Goes b w s bad (vItem w.heap.size) (Im.item s) e w':=by
 have hwd:=fun W hW=>rword_any b s bad W hW
 rw [hw] at hwd
 dsimp only at hwd
 have hle:=word_le s
 rw [hw] at hle
 dsimp only at hle
 have hblt:=h.lt
 have hdb:w.heap.size ≠ b:=by omega
 obtain ⟨R,hR⟩:∃ R,R = Im.item s:=⟨_,rfl⟩
 rw [← hR]
 have a1:Below w.heap.size w (w.alloc (.cells #[.int .i64 0,.slice none 0 0,.int .i64 0,.bool false,.int .i64 0,.int .i64 0] 37)):=(Below.refl _ _).alloc (Nat.le_refl _) _
 have R1:=hid (h.below a1)
 have O1:=hid (Only.of a1 (Nat.le_of_lt hblt))
 have Z1:Hid (ItAt (w.alloc (.cells #[.int .i64 0,.slice none 0 0,.int .i64 0,.bool false,.int .i64 0,.int .i64 0] 37)) w.heap.size 0 (.slice none 0 0) 0 false 0 0):=hid (heap_alloc_new w _)
 have II:=hid ((Inv.start bad R).to fun _=>hR.trans (item_k hw))
 clear h hR a1 hw
 have I2:=hid (II.out.to (K':=item7 true t) fun _=>by rw [if_neg (by decide),if_neg (by decide)];rfl)
 clear II
 have tok0:Tk 0:=⟨⟩
 go_enter Tryz.func112,Tryz.ntmps112
 go_wp2_with (first
  | (go_at_call 32;refine (hwd _ R1.out).mono ?_;rintro e w2 ⟨rfl,r2,o2⟩;have a2:=(Below.refl w2.heap.size w2).alloc (Nat.le_refl _) (.cells #[.int .i64 7,.slice none 0 0,.int .i64 0,.bool true,.int .i64 0,.int .i64 (-1)] 37);have hbc:b < w2.heap.size:=r2.lt;have hcb:w2.heap.size ≠ b:=(by omega);have hdc:w.heap.size ≠ w2.heap.size:=(by have:=o2.size;simp at this;omega);have hwc:w.heap.size ≤ w2.heap.size:=(by have:=o2.size;simp at this;omega);have z2:=(Z1.out.only o2 hdb).below a2;have y0:=z2.c0;have yf0:=z2.free 0;have y1:=z2.c1;have yf1:=z2.free 1;have y2:=z2.c2;have yf2:=z2.free 2;have y3:=z2.c3;have yf3:=z2.free 3;have y4:=z2.c4;have yf4:=z2.free 4;have y5:=z2.c5;have yf5:=z2.free 5;have R2:=hid (r2.below a2);have b1:=R2.out.c1;have bf:=R2.out.free 1;have O2:=hid (O1.out.trans (o2.trans (Only.of a2 (Nat.le_of_lt r2.lt))));have K2:Hid (ItAt (w2.alloc (.cells #[.int .i64 7,.slice none 0 0,.int .i64 0,.bool true,.int .i64 0,.int .i64 (-1)] 37)) w2.heap.size 7 (.slice none 0 0) 0 true 0 (-1)):=hid (heap_alloc_new w2 _);have Z2:=hid z2;clear r2 o2 a2 z2)
  | (go_at_call 72;have t_:Tk 0:=‹Tk 0›;refine (rsign_any 91 91 rfl b t bad _ R2.out).mono ?_;rintro e w3 ⟨v3,a3,s3,d3,rfl,rfl,r3,l3,o3,t3⟩;have I3:=hid (Inv.step (show Inv bad R bad ((signR 91 t).bind fun q0=>(section_ q0.2).bind fun q1=>(signR 93 q1.2).bind fun q2=>itemE true q1.1 q2.2) from I2.out) t3);have R3:=hid r3;have L3:=hid l3;have T3:=hid t3;have O3:=hid (O2.out.trans o3);have k3:=K2.out.only o3 hcb;have z3:=Z2.out.only o3 hdb;have K3:=hid k3;have Z3:=hid z3;have Y3:=hid o3;clear r3 l3 t3 o3 k3 z3 <;> (clear t_ tok0;have tok1:Tk 1:=⟨⟩))
  | (go_at_call 143;have t_:Tk 1:=‹Tk 1›;refine (rsection_any b w2.heap.size s3 d3 _ 7 true 0 (-1) R3.out K3.out hbc).mono ?_;rintro e w4 ⟨sec,wh,s4,d4,sv4,rfl,r4,l4,o4,n4,k4,t4⟩;obtain ⟨A4,m4,c4,rfl,hm4⟩:=NBuf.slc n4;have I4:=hid (Inv.step (show Inv bad R d3 ((section_ s3).bind fun q1=>(signR 93 q1.2).bind fun q2=>itemE true q1.1 q2.2) from I3.out) t4);have R4:=hid r4;have L4:=hid l4;have O4:=hid (O3.out.two_trans o4 hwc);have Z4:=hid (Z3.out.two o4 hdb hdc);have K4:=hid k4;have N4:=hid n4;have HM:=hid hm4;clear r4 l4 o4 n4 k4 t4 hm4 <;> (clear t_ tok1;have tok2:Tk 2:=⟨⟩))
  | (go_at_call 72;have t_:Tk 2:=‹Tk 2›;refine (rsign_any 93 93 rfl b s4 d4 _ R4.out).mono ?_;rintro e w5 ⟨v5,a5,s5,d5,rfl,rfl,r5,l5,o5,t5⟩;have I5:=hid (Inv.step (show Inv bad R d4 ((signR 93 s4).bind fun q2=>itemE true (sec,wh) q2.2) from I4.out) t5);have R5:=hid r5;have L5:=hid l5;have T5:=hid t5;have O5:=hid (O4.out.trans o5);have k5:=K4.out.only o5 hcb;have z5:=Z4.out.only o5 hdb;have p0:=k5.c0;have pf0:=k5.free 0;have p1:=k5.c1;have pf1:=k5.free 1;have p2:=k5.c2;have pf2:=k5.free 2;have p3:=k5.c3;have pf3:=k5.free 3;have p4:=k5.c4;have pf4:=k5.free 4;have p5:=k5.c5;have pf5:=k5.free 5;have y0:=z5.c0;have yf0:=z5.free 0;have y1:=z5.c1;have yf1:=z5.free 1;have y2:=z5.c2;have yf2:=z5.free 2;have y3:=z5.c3;have yf3:=z5.free 3;have y4:=z5.c4;have yf4:=z5.free 4;have y5:=z5.c5;have yf5:=z5.free 5;have K5:=hid k5;have Z5:=hid z5;have Y5:=hid o5;clear r5 l5 t5 o5 k5 z5 <;> (clear t_ tok2;have tok3:Tk 3:=⟨⟩))
  | (go_at_call 33;have t_:Tk 3:=‹Tk 3›;obtain ⟨k6,hk6⟩:∃ k6,Lib.hasPrefix s5 [60] = k6:=⟨_,rfl⟩;have hse:=rsees_any 60 60 rfl b s5 d5 _ R5.out;rw [hk6] at hse;refine hse.mono ?_;clear hse;rintro e w6 ⟨rfl,he⟩;obtain rfl:=he.symm;have HK6:=hid hk6;clear hk6;cases k6 <;> (clear t_ tok3;have tok4:Tk 4:=⟨⟩))
  | (go_at_call 72;have t_:Tk 4:=‹Tk 4›;have J7:=hid ((show Inv bad R d5 (itemE true (sec,wh) s5) from I5.out).to (K':=(signR 60 s5).bind fun a0=>(number 0 4294967295 a0.2).bind fun a=>(signR 46 a.2).bind fun a1=>(number 1 4294967295 a1.2).bind fun b=>(signR 62 b.2).map fun z=>(({ kind:=7,sec:=sec,what:=wh,peek:=true,frm:=a.1,of:=b.1 }:It),z.2)) fun _=>by unfold itemE;rw [if_pos HK6.out]);refine (rsign_any 60 60 rfl b s5 d5 _ R5.out).mono ?_;rintro e w7 ⟨v7,a7,s7,d7,rfl,rfl,r7,l7,o7,t7⟩;have I7:=hid (J7.out.step t7);have R7:=hid r7;have L7:=hid l7;have O7:=hid (O5.out.trans o7);have K7:=hid (K5.out.only o7 hcb);have Z7:=hid (Z5.out.only o7 hdb);have Y7:=hid o7;clear r7 l7 o7 t7 <;> (clear t_ tok4;have tok5:Tk 5:=⟨⟩))
  | (go_at_call 113;have t_:Tk 5:=‹Tk 5›;refine (rnum_any b s7 0 4294967295 d7 _ R7.out).mono ?_;rintro e w8 ⟨v8,n8,s8,d8,rfl,rfl,r8,l8,o8,t8⟩;have k8:=K7.out.only o8 hcb;have u8:=k8.c4;have g8:=k8.free 4;have I8:=hid (Inv.step (show Inv bad R d7 ((number 0 4294967295 s7).bind fun a=>(signR 46 a.2).bind fun a1=>(number 1 4294967295 a1.2).bind fun b=>(signR 62 b.2).map fun z=>(({ kind:=7,sec:=sec,what:=wh,peek:=true,frm:=a.1,of:=b.1 }:It),z.2)) from I7.out) t8);have R8:=hid (r8.far hbc (j:=4) (.int .i64 n8));have L8:=hid l8;have O8:=hid ((O7.out.trans o8).setNew hblt hwc (j:=4) (.int .i64 n8));have K8:=hid (k8.set4 n8);have Z8:=hid ((Z7.out.only o8 hdb).far hdc (j:=4) (.int .i64 n8));have Y8:=hid o8;clear r8 l8 o8 t8 k8 <;> (clear t_ tok5;have tok6:Tk 6:=⟨⟩))
  | (go_at_call 72;have t_:Tk 6:=‹Tk 6›;refine (rsign_any 46 46 rfl b s8 d8 _ R8.out).mono ?_;rintro e w9 ⟨v9,a9,s9,d9,rfl,rfl,r9,l9,o9,t9⟩;have I9:=hid (Inv.step (show Inv bad R d8 ((signR 46 s8).bind fun a1=>(number 1 4294967295 a1.2).bind fun b=>(signR 62 b.2).map fun z=>(({ kind:=7,sec:=sec,what:=wh,peek:=true,frm:=n8,of:=b.1 }:It),z.2)) from I8.out) t9);have R9:=hid r9;have L9:=hid l9;have T9:=hid t9;have O9:=hid (O8.out.trans o9);have k9:=K8.out.only o9 hcb;have z9:=Z8.out.only o9 hdb;have K9:=hid k9;have Z9:=hid z9;have Y9:=hid o9;clear r9 l9 t9 o9 k9 z9 <;> (clear t_ tok6;have tok7:Tk 7:=⟨⟩))
  | (go_at_call 113;have t_:Tk 7:=‹Tk 7›;refine (rnum_any b s9 1 4294967295 d9 _ R9.out).mono ?_;rintro e w10 ⟨v10,n10,s10,d10,rfl,rfl,r10,l10,o10,t10⟩;have k10:=K9.out.only o10 hcb;have u10:=k10.c5;have g10:=k10.free 5;have I10:=hid (Inv.step (show Inv bad R d9 ((number 1 4294967295 s9).bind fun b=>(signR 62 b.2).map fun z=>(({ kind:=7,sec:=sec,what:=wh,peek:=true,frm:=n8,of:=b.1 }:It),z.2)) from I9.out) t10);have R10:=hid (r10.far hbc (j:=5) (.int .i64 n10));have L10:=hid l10;have O10:=hid ((O9.out.trans o10).setNew hblt hwc (j:=5) (.int .i64 n10));have K10:=hid (k10.set5 n10);have Z10:=hid ((Z9.out.only o10 hdb).far hdc (j:=5) (.int .i64 n10));have Y10:=hid o10;clear r10 l10 o10 t10 k10 <;> (clear t_ tok7;have tok8:Tk 8:=⟨⟩))
  | (go_at_call 72;have t_:Tk 8:=‹Tk 8›;refine (rsign_any 62 62 rfl b s10 d10 _ R10.out).mono ?_;rintro e w11 ⟨v11,a11,s11,d11,rfl,rfl,r11,l11,o11,t11⟩;have I11:=hid (Inv.map (show Inv bad R d10 ((signR 62 s10).map fun z=>(({ kind:=7,sec:=sec,what:=wh,peek:=true,frm:=n8,of:=n10 }:It),z.2)) from I10.out) t11);have R11:=hid r11;have L11:=hid l11;have O11:=hid (O10.out.trans o11);have k11:=K10.out.only o11 hcb;have z11:=Z10.out.only o11 hdb;have p0:=k11.c0;have pf0:=k11.free 0;have p1:=k11.c1;have pf1:=k11.free 1;have p2:=k11.c2;have pf2:=k11.free 2;have p3:=k11.c3;have pf3:=k11.free 3;have p4:=k11.c4;have pf4:=k11.free 4;have p5:=k11.c5;have pf5:=k11.free 5;have y0:=z11.c0;have yf0:=z11.free 0;have y1:=z11.c1;have yf1:=z11.free 1;have y2:=z11.c2;have yf2:=z11.free 2;have y3:=z11.c3;have yf3:=z11.free 3;have y4:=z11.c4;have yf4:=z11.free 4;have y5:=z11.c5;have yf5:=z11.free 5;have K11:=hid k11;have Z11:=hid z11;have Y11:=hid o11;clear r11 l11 o11 t11 k11 z11 <;> (clear t_ tok8;have tok9:Tk 9:=⟨⟩)))
 · have I6:=hid (I5.out.to (K':=some ({ kind:=7,sec:=sec,what:=wh,peek:=true,of:=-1 },s5)) fun _=>by unfold itemE;rw [if_neg (by rw [HK6.out];simp)])
   have hb3:b + 1 ≤ w3.heap.size:=R3.out.lt
   have hc3:w2.heap.size + 1 ≤ w3.heap.size:=K3.out.lt
   have hd3:w.heap.size + 1 ≤ w3.heap.size:=Z3.out.lt
   have hw3:w.heap.size ≤ w3.heap.size:=by omega
   have hl3:=L3.out
   have hl4:=L4.out
   have hl5:=L5.out
   have hm:=HM.out
   subst hm
   have N6:=(GBuf.stays N4.out (Y5.out.stays hb3))
   refine bodyPost_ret (v:=.agg #[.int .i64 7,.slice A4 sec.length c4,.int .i64 wh,.bool true,.int .i64 0,.int .i64 (-1)]) (by first | (simp [results,Tryz.results112,go_sem,y0,y1,y2,y3,y4,y5];done) | (simp [results,Tryz.results112,go_sem,y0,y1,y2,y3,y4,y5];rfl)) rfl ?_
   exact ⟨_,{ kind:=7,sec:=sec,what:=wh,peek:=true,of:=-1 },s5,d5,rfl,⟨_,rfl,GBuf.mono (GBuf.stays (GBuf.stays (GBuf.stays (GBuf.stays (GBuf.stays (GBuf.stays N6 ((setStays _ _ _ _).mono hd3)) ((setStays _ _ _ _).mono hd3)) ((setStays _ _ _ _).mono hd3)) ((setStays _ _ _ _).mono hd3)) ((setStays _ _ _ _).mono hd3)) ((setStays _ _ _ _).mono hd3)) hw3⟩,((((((R5.out.far hblt _).far hblt _).far hblt _).far hblt _).far hblt _).far hblt _),by omega,((((((O5.out.setNew hblt (Nat.le_refl _) _).setNew hblt (Nat.le_refl _) _).setNew hblt (Nat.le_refl _) _).setNew hblt (Nat.le_refl _) _).setNew hblt (Nat.le_refl _) _).setNew hblt (Nat.le_refl _) _),I6.out.out⟩
 · have hl7:=L7.out
   have hl8:=L8.out
   have hl9:=L9.out
   have hl10:=L10.out
   have hl11:=L11.out
   have hb3:b + 1 ≤ w3.heap.size:=R3.out.lt
   have hc3:w2.heap.size + 1 ≤ w3.heap.size:=K3.out.lt
   have hd3:w.heap.size + 1 ≤ w3.heap.size:=Z3.out.lt
   have hw3:w.heap.size ≤ w3.heap.size:=by omega
   have hl3:=L3.out
   have hl4:=L4.out
   have hl5:=L5.out
   have hm:=HM.out
   subst hm
   have N6:=(GBuf.stays (GBuf.stays (GBuf.stays (GBuf.stays (GBuf.stays (GBuf.stays (GBuf.stays (GBuf.stays N4.out (Y5.out.stays hb3)) (Y7.out.stays hb3)) (Y8.out.stays hb3)) ((setStays _ _ _ _).mono hc3)) (Y9.out.stays hb3)) (Y10.out.stays hb3)) ((setStays _ _ _ _).mono hc3)) (Y11.out.stays hb3))
   refine bodyPost_ret (v:=.agg #[.int .i64 7,.slice A4 sec.length c4,.int .i64 wh,.bool true,.int .i64 n8,.int .i64 n10]) (by first | (simp [results,Tryz.results112,go_sem,y0,y1,y2,y3,y4,y5];done) | (simp [results,Tryz.results112,go_sem,y0,y1,y2,y3,y4,y5];rfl)) rfl ?_
   exact ⟨_,{ kind:=7,sec:=sec,what:=wh,peek:=true,frm:=n8,of:=n10 },s11,d11,rfl,⟨_,rfl,GBuf.mono (GBuf.stays (GBuf.stays (GBuf.stays (GBuf.stays (GBuf.stays (GBuf.stays N6 ((setStays _ _ _ _).mono hd3)) ((setStays _ _ _ _).mono hd3)) ((setStays _ _ _ _).mono hd3)) ((setStays _ _ _ _).mono hd3)) ((setStays _ _ _ _).mono hd3)) ((setStays _ _ _ _).mono hd3)) hw3⟩,((((((R11.out.far hblt _).far hblt _).far hblt _).far hblt _).far hblt _).far hblt _),by omega,((((((O11.out.setNew hblt (Nat.le_refl _) _).setNew hblt (Nat.le_refl _) _).setNew hblt (Nat.le_refl _) _).setNew hblt (Nat.le_refl _) _).setNew hblt (Nat.le_refl _) _).setNew hblt (Nat.le_refl _) _),I11.out.out⟩
theorem ritem_any (b:Nat) (s:Bt) (bad:Bool) (w:World) (h:RtT w b s bad) :
  Calls Tryz.prog 112 #[.pointer (some ⟨b,0,none⟩)] w fun e w'=>Goes b w s bad (vItem w.heap.size) (Im.item s) e w':=by
 obtain ⟨wd,t,hw⟩:∃ wd t,Im.word s = (wd,t):=⟨_,_,rfl⟩
 by_cases h1:wd = [66,79,68,89]
 · subst h1
   exact ritem_body b s bad w h t hw
 by_cases h2:wd = [66,79,68,89,46,80,69,69,75]
 · subst h2
   exact ritem_peek b s bad w h t hw
 refine ritem_small b s bad w h wd t hw ?_
 rcases item_ways wd with rfl | rfl | rfl | rfl | rfl | rfl | rfl | rfl | ⟨-,-,-,-,-,-,-,-,hk⟩
 · decide
 · decide
 · decide
 · decide
 · decide
 · decide
 · exact absurd rfl h1
 · exact absurd rfl h2
 · rw [hk];decide
end Go.Proofs.YtfdmdmahddjjmaaGreatDoor
