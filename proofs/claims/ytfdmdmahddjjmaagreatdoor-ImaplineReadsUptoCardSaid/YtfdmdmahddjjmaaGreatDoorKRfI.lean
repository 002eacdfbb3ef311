/-
  The reference: what FETCH asks for.
-/
import Derived.Test.YtfdmdmahddjjmaaGreatDoorKRfH
import Derived.Test.YtfdmdmahddjjmaaGreatDoorPkIm2
import Derived.Test.YtfdmdmahddjjmaaGreatDoorPkIm0
set_option linter.unusedVariables false
set_option linter.unusedSimpArgs false
set_option maxRecDepth 100000
namespace Go.Proofs.YtfdmdmahddjjmaaGreatDoor
open Go.RowKit Own Im
attribute [local go_sem] str_toList str_size
theorem RtT.put0 {b:Nat} {w:World} {s:Bt} {bad:Bool} (h:RtT w b s bad) (t:Bt) (ht:t.length ≤ 100000000):RtT (w.setCell ⟨b,0,none⟩ (.string (str t))) b t bad:=⟨block_set h.blk _,ht,h.good.only (Only.set _ _ _ _)⟩
theorem short_word {s wd r n:Bt} (hw:Im.word s = (wd,r)) (hn:great n = n) (hl:n.dropWhile letB = []):great s = n ↔ r = []∧wd = n:=by
 have h1:great (s.takeWhile letB) = wd:=congrArg Prod.fst hw
 have h2:s.dropWhile letB = r:=congrArg Prod.snd hw
 have hs:s.takeWhile letB ++ s.dropWhile letB = s:=List.takeWhile_append_dropWhile
 constructor
 · intro h
   have hr:RR s n:=h.trans hn.symm
   have hd:=(while_rel inv_let hr).2
   rw [hl] at hd
   have hd0:=hd.nil_right
   refine ⟨h2.symm.trans hd0,?_⟩
   rw [hd0,List.append_nil] at hs
   rw [← h1,hs,h]
 · rintro ⟨rfl,rfl⟩
   rw [h2,List.append_nil] at hs
   rw [← h1,hs]
theorem short_kind {s wd r:Bt} (hw:Im.word s = (wd,r)):kindOf short (great s) = if r = []∧wd = [65,76,76] then 4 else if r = []∧wd = [70,65,83,84] then 3 else 0:=by
 have e1:=short_word (n:=[65,76,76]) hw (by decide) (by decide)
 have e2:=short_word (n:=[70,65,83,84]) hw (by decide) (by decide)
 by_cases h1:great s = [65,76,76]
 · rw [h1,if_pos (e1.1 h1)];rfl
 rw [if_neg (fun h=>h1 (e1.2 h))]
 by_cases h2:great s = [70,65,83,84]
 · rw [h2,if_pos (e2.1 h2)];rfl
 rw [if_neg (fun h=>h2 (e2.2 h))]
 unfold kindOf
 have:short.find? (fun p=>p.1 == great s) = none:=by
  rw [List.find?_eq_none]
  intro p hp
  simp only [short,List.mem_cons,List.not_mem_nil,or_false] at hp
  rcases hp with rfl | rfl
  · simpa using fun e=>h1 e.symm
  · simpa using fun e=>h2 e.symm
 rw [this]
 rfl
def headK (f:Nat) (l:List It) (t:Bt):Option (List It × Bt):=(Im.item t).bind fun q=>(itemsL f (l ++ [q.1]) q.2).bind itemsEnd
def lenK (l:List It) (t:Bt):Option (List It × Bt):=if decide (16 < l.length) = true then none else some (l,t)
theorem items_par {f:Nat} {l:List It} {t:Bt} (h:Lib.hasPrefix t [41] = true):(itemsL (f + 1) l t).bind itemsEnd = (signR 41 t).bind fun q=>lenK l q.2:=by
 have hk:takes [32] t = (false,t):=by
  rw [takes_one]
  cases t with
  | nil=>rw [prefix_nil];rfl
  | cons c r =>
   rw [prefix_one] at h ⊢
   have:c = 41:=of_decide_eq_true h
   subst this
   rfl
 rw [itemsL_end hk,Option.bind_some]
 unfold itemsEnd
 rw [signR_bind]
 dsimp only
 cases sign [41] t with
 | none=>rfl
 | some u =>
  simp only [Option.bind_some]
  unfold lenK
  by_cases hl:l.length ≤ 16
  · rw [if_pos hl,if_neg (by simp;omega)]
  · rw [if_neg hl,if_pos (by simp;omega)]
theorem items_on {f:Nat} {l:List It} {t:Bt} (h:Lib.hasPrefix t [41] = false):(itemsL (f + 1) l t).bind itemsEnd = (signR 32 t).bind fun q=>headK f l q.2:=by
 rw [signR_bind]
 cases hk:Lib.hasPrefix t [32] with
 | true =>
  have h1:takes [32] t = (true,t.drop 1):=by rw [takes_one,hk];rfl
  have h2:sign [32] t = some (t.drop 1):=by unfold sign;rw [if_pos hk];rfl
  rw [itemsL_on h1,h2,Option.bind_some]
  unfold headK
  cases Im.item (t.drop 1) <;> rfl
 | false =>
  have h1:takes [32] t = (false,t):=by rw [takes_one,hk];rfl
  have h2:sign [32] t = none:=by unfold sign;rw [if_neg (by rw [hk];simp)]
  have h3:sign [41] t = none:=by unfold sign;rw [if_neg (by rw [h];simp)]
  rw [itemsL_end h1,h2,Option.bind_some]
  unfold itemsEnd
  dsimp only
  rw [h3]
  rfl
theorem itemsL_fuel:∀ (f g:Nat) (l:List It) (t:Bt),t.length < f→t.length < g→itemsL f l t = itemsL g l t
 | 0,_,_,_,h,_=>absurd h (Nat.not_lt_zero _)
 | _,0,_,_,_,h=>absurd h (Nat.not_lt_zero _)
 | f + 1,g + 1,l,t,h1,h2=>by
   obtain ⟨k,u,hk⟩:∃ k u,takes [32] t = (k,u):=⟨_,_,rfl⟩
   cases k with
   | false=>rw [itemsL_end hk,itemsL_end hk]
   | true =>
    rw [itemsL_on hk,itemsL_on hk]
    have hu:=takes_lt hk
    simp only [List.length_cons,List.length_nil] at hu
    cases hq:Im.item u with
    | none=>rfl
    | some q =>
     have:=item_le (r:=q.1) (t:=q.2) (by rw [hq])
     exact itemsL_fuel f g _ _ (by omega) (by omega)
theorem items_paren {s:Bt} (h0:kindOf short (great s) = 0) (h:Lib.hasPrefix s [40] = true):Im.items s = (signR 40 s).bind fun q=>headK (s.length + 1) [] q.2:=by
 unfold Im.items
 rw [if_neg (by rw [h0];decide),takes_one,h,signR_bind]
 have h2:sign [40] s = some (s.drop 1):=by unfold sign;rw [if_pos h];rfl
 rw [h2,Option.bind_some]
 simp only [Bool.true_eq_false,if_false,if_true]
 unfold headK
 cases hq:Im.item (s.drop 1) with
 | none=>rfl
 | some q =>
  simp only [Option.bind_some]
  have:=item_le (r:=q.1) (t:=q.2) (by rw [hq])
  have hd:(s.drop 1).length ≤ s.length:=by simp
  rw [itemsL_fuel (s.length + 1) (q.2.length + 1) _ _ (by omega) (by omega)]
  rfl
theorem vItems.slc {B:Nat} {w:World} {v:Value} {l:List It} (h:vItems B l v w):∃ A n c,v = .slice A n c∧n = l.length:=by
 obtain ⟨xs,hb,-⟩:=h
 obtain ⟨A,c,h1,-⟩:=hb.full
 exact ⟨A,_,c,h1,rfl⟩
theorem items_bare {s:Bt} (h0:kindOf short (great s) = 0) (h:Lib.hasPrefix s [40] = false):Im.items s = (Im.item s).map fun q=>([q.1],q.2):=by
 unfold Im.items
 rw [if_neg (by rw [h0];decide),takes_one,h,if_pos rfl]
theorem items_all {s:Bt} {k:Int} (h0:kindOf short (great s) = k) (hk:0 < k):Im.items s = some (four.take k.toNat,[]):=by
 unfold Im.items
 rw [h0,if_pos hk]
set_option maxHeartbeats 8000000 in
theorem ritems_all (b:Nat) (s:Bt) (bad:Bool) (w:World) (h:RtT w b s bad) (wd r:Bt) (hw:Im.word s = (wd,r)) (hr:r = []) (hd:wd = [65,76,76]) :
  Calls Tryz.prog 80 #[.pointer (some ⟨b,0,none⟩)] w fun e w'=>Goes b w s bad (vItems w.heap.size) (Im.items s) e w':=by
 have hwd:=fun W hW=>rword_any b s bad W hW
 rw [hw] at hwd
 dsimp only at hwd
 have hle:=word_le s
 rw [hw] at hle
 dsimp only at hle
 have hlen:=h.len
 have hblt:=h.lt
 obtain ⟨R,hR⟩:∃ R,R = Im.items s:=⟨_,rfl⟩
 rw [← hR]
 have a1:Below w.heap.size w (w.alloc (.cells #[.int .i64 1,.slice none 0 0,.int .i64 0,.bool false,.int .i64 0,.int .i64 (-1),.int .i64 3,.slice none 0 0,.int .i64 0,.bool false,.int .i64 0,.int .i64 (-1),.int .i64 4,.slice none 0 0,.int .i64 0,.bool false,.int .i64 0,.int .i64 (-1),.int .i64 5,.slice none 0 0,.int .i64 0,.bool false,.int .i64 0,.int .i64 (-1)] 37)):=(Below.refl _ _).alloc (Nat.le_refl _) _
 have h1:=h.below a1
 have c1:=h1.c0
 have R1:=hid h1
 have O1:=hid (Only.of a1 (Nat.le_of_lt hblt))
 have hsk:=short_kind hw
 clear h a1 hw h1
 subst hr hd
 have hk:kindOf short (great s) = 4:=by rw [hsk];simp
 have II:=hid ((Inv.start bad R).to fun _=>hR.trans (items_all hk (by decide)))
 have V1:=hid (items_short w.heap.size w (Nat.le_refl _) 4 w.heap.size (by decide) rfl #[.int .i64 1,.slice none 0 0,.int .i64 0,.bool false,.int .i64 0,.int .i64 (-1),.int .i64 3,.slice none 0 0,.int .i64 0,.bool false,.int .i64 0,.int .i64 (-1),.int .i64 4,.slice none 0 0,.int .i64 0,.bool false,.int .i64 0,.int .i64 (-1),.int .i64 5,.slice none 0 0,.int .i64 0,.bool false,.int .i64 0,.int .i64 (-1)] rfl)
 clear hsk hk hR
 go_enter Tryz.func80,Tryz.ntmps80
 go_wp2_with (go_at_call 32;refine (hwd _ R1.out).mono ?_;rintro e w2 ⟨rfl,r2,o2⟩;have c0:=r2.c0;have f0:=r2.free 0;have R2:=hid r2;have O2:=hid (O1.out.trans o2);have Y2:=hid o2;clear r2 o2)
 go_ret
 exact ⟨_,four.take 4,[],bad,rfl,V1.out.stays (Y2.out.stays hblt),R2.out,hle,O2.out,II.out.out⟩
set_option maxHeartbeats 8000000 in
theorem ritems_fast (b:Nat) (s:Bt) (bad:Bool) (w:World) (h:RtT w b s bad) (wd r:Bt) (hw:Im.word s = (wd,r)) (hr:r = []) (hd:wd = [70,65,83,84]) :
  Calls Tryz.prog 80 #[.pointer (some ⟨b,0,none⟩)] w fun e w'=>Goes b w s bad (vItems w.heap.size) (Im.items s) e w':=by
 have hwd:=fun W hW=>rword_any b s bad W hW
 rw [hw] at hwd
 dsimp only at hwd
 have hle:=word_le s
 rw [hw] at hle
 dsimp only at hle
 have hlen:=h.len
 have hblt:=h.lt
 obtain ⟨R,hR⟩:∃ R,R = Im.items s:=⟨_,rfl⟩
 rw [← hR]
 have a1:Below w.heap.size w (w.alloc (.cells #[.int .i64 1,.slice none 0 0,.int .i64 0,.bool false,.int .i64 0,.int .i64 (-1),.int .i64 3,.slice none 0 0,.int .i64 0,.bool false,.int .i64 0,.int .i64 (-1),.int .i64 4,.slice none 0 0,.int .i64 0,.bool false,.int .i64 0,.int .i64 (-1),.int .i64 5,.slice none 0 0,.int .i64 0,.bool false,.int .i64 0,.int .i64 (-1)] 37)):=(Below.refl _ _).alloc (Nat.le_refl _) _
 have h1:=h.below a1
 have c1:=h1.c0
 have R1:=hid h1
 have O1:=hid (Only.of a1 (Nat.le_of_lt hblt))
 have hsk:=short_kind hw
 clear h a1 hw h1
 subst hr hd
 have hk:kindOf short (great s) = 3:=by rw [hsk];simp
 have II:=hid ((Inv.start bad R).to fun _=>hR.trans (items_all hk (by decide)))
 have V1:=hid (items_short w.heap.size w (Nat.le_refl _) 3 w.heap.size (by decide) rfl #[.int .i64 1,.slice none 0 0,.int .i64 0,.bool false,.int .i64 0,.int .i64 (-1),.int .i64 3,.slice none 0 0,.int .i64 0,.bool false,.int .i64 0,.int .i64 (-1),.int .i64 4,.slice none 0 0,.int .i64 0,.bool false,.int .i64 0,.int .i64 (-1),.int .i64 5,.slice none 0 0,.int .i64 0,.bool false,.int .i64 0,.int .i64 (-1)] rfl)
 clear hsk hk hR
 go_enter Tryz.func80,Tryz.ntmps80
 go_wp2_with (go_at_call 32;refine (hwd _ R1.out).mono ?_;rintro e w2 ⟨rfl,r2,o2⟩;have c0:=r2.c0;have f0:=r2.free 0;have R2:=hid r2;have O2:=hid (O1.out.trans o2);have Y2:=hid o2;clear r2 o2)
 go_ret
 exact ⟨_,four.take 3,[],bad,rfl,V1.out.stays (Y2.out.stays hblt),R2.out,hle,O2.out,II.out.out⟩
set_option maxHeartbeats 8000000 in
theorem ritems_rest (b:Nat) (s:Bt) (bad:Bool) (w:World) (h:RtT w b s bad) (wd r:Bt) (hw:Im.word s = (wd,r)) (h0:¬ (r = []∧wd = [65,76,76])) (h1:¬ (r = []∧wd = [70,65,83,84])) :
  Calls Tryz.prog 80 #[.pointer (some ⟨b,0,none⟩)] w fun e w'=>Goes b w s bad (vItems w.heap.size) (Im.items s) e w':=by
 have hwd:=fun W hW=>rword_any b s bad W hW
 rw [hw] at hwd
 dsimp only at hwd
 have hle:=word_le s
 rw [hw] at hle
 dsimp only at hle
 have hlen:=h.len
 have hblt:=h.lt
 obtain ⟨R,hR⟩:∃ R,R = Im.items s:=⟨_,rfl⟩
 rw [← hR]
 have a1:Below w.heap.size w (w.alloc (.cells #[.int .i64 1,.slice none 0 0,.int .i64 0,.bool false,.int .i64 0,.int .i64 (-1),.int .i64 3,.slice none 0 0,.int .i64 0,.bool false,.int .i64 0,.int .i64 (-1),.int .i64 4,.slice none 0 0,.int .i64 0,.bool false,.int .i64 0,.int .i64 (-1),.int .i64 5,.slice none 0 0,.int .i64 0,.bool false,.int .i64 0,.int .i64 (-1)] 37)):=(Below.refl _ _).alloc (Nat.le_refl _) _
 have h1:=h.below a1
 have c1:=h1.c0
 have R1:=hid h1
 have O1:=hid (Only.of a1 (Nat.le_of_lt hblt))
 have hsk:=short_kind hw
 clear h a1 hw h1
 have hk:kindOf short (great s) = 0:=by rw [hsk,if_neg h0,if_neg h1]
 have hq:((r == []) = false)∨((r == []) = true∧(wd == [65,76,76]) = false∧(wd == [70,65,83,84]) = false):=by
  cases r with
  | cons c r=>exact .inl (by simp)
  | nil=>exact .inr ⟨by simp,by simpa using h0,by simpa using h1⟩
 clear hsk h0 h1
 obtain ⟨k1,hk1⟩:∃ k1,Lib.hasPrefix s [40] = k1:=⟨_,rfl⟩
 have hse:=fun W hW=>rsees_any 40 40 rfl b s bad W hW
 rw [hk1] at hse
 have HSE:=hid hse
 clear hse
 cases k1 with
 | false =>
  have II:=hid ((Inv.start bad R).to fun _=>hR.trans (items_bare hk hk1))
  clear hR hk hk1
  rcases hq with e1 | ⟨e1,e2,e3⟩
  all_goals
   go_enter Tryz.func80,Tryz.ntmps80
   go_wp2_with (first
    | (go_at_call 32;refine (hwd _ R1.out).mono ?_;rintro e w2 ⟨rfl,r2,o2⟩;have c0:=r2.c0;have f0:=r2.free 0;have R2:=hid r2;have O2:=hid (O1.out.trans o2);have Y2:=hid o2;clear r2 o2;have R3:=hid (R2.out.put0 s hlen);have O3:=hid (O2.out.trans (Only.set w2 b 0 (.string (str s)))))
    | (go_at_call 33;refine (HSE.out _ R3.out).mono ?_;rintro e w4 ⟨rfl,he⟩;obtain rfl:=he.symm)
    | (go_at_call 112;refine (ritem_any b s bad _ R3.out).mono ?_;rintro e w5 ⟨v5,it,s5,d5,rfl,vv5,r5,l5,o5,t5⟩;obtain ⟨sv5,rfl,n5⟩:=vv5;obtain ⟨A5,m5,c5,rfl,hm5⟩:=NBuf.slc n5;have HM:=hid hm5;have I5:=hid (II.out.map t5);have R5:=hid r5;have L5:=hid l5;have N5:=hid (GBuf.mono n5 O3.out.size);have O5:=hid (O3.out.trans o5);clear n5 r5 l5 o5 t5 hm5))
   go_ret
   have hm:=HM.out
   subst hm
   exact ⟨_,[it],s5,d5,rfl,vItems.one w5 it A5 it.sec.length c5 O5.out.size N5.out _ rfl,R5.out.below ((Below.refl _ _).alloc (Nat.le_refl _) _),L5.out,O5.out.trans (Only.of ((Below.refl _ _).alloc (Nat.le_refl _) _) (Nat.le_of_lt R5.out.lt)),I5.out.out⟩
 | true =>
  have II:=hid ((Inv.start bad R).to fun _=>hR.trans (items_paren hk hk1))
  clear hR hk hk1
  rcases hq with e1 | ⟨e1,e2,e3⟩
  all_goals
   go_enter Tryz.func80,Tryz.ntmps80
   go_wp2_with (first
    | (go_at_call 32;refine (hwd _ R1.out).mono ?_;rintro e w2 ⟨rfl,r2,o2⟩;have c0:=r2.c0;have f0:=r2.free 0;have R2:=hid r2;have O2:=hid (O1.out.trans o2);have Y2:=hid o2;clear r2 o2;have R3:=hid (R2.out.put0 s hlen);have O3:=hid (O2.out.trans (Only.set w2 b 0 (.string (str s)))))
    | (go_at_call 33;refine (HSE.out _ R3.out).mono ?_;rintro e w4 ⟨rfl,he⟩;obtain rfl:=he.symm)
    | (go_at_call 72;refine (rsign_any 40 40 rfl b s bad _ R3.out).mono ?_;rintro e w5 ⟨v5,a5,s5,d5,rfl,rfl,r5,l5,o5,t5⟩;have I5:=hid (II.out.step t5);have R5:=hid r5;have L5:=hid l5;have O5:=hid (O3.out.trans o5);clear r5 l5 o5 t5))
   go_loopw [6] (fun v6 wr=>∃ (f:Nat) (l:List It) (t:Bt) (d:Bool),Inv bad R d (headK f l t)∧(d = false→t.length < f∧l.length + t.length ≤ 100000000)∧l.length ≤ 100000001∧RtT wr b t d∧vItems w.heap.size l v6 wr∧Only b w wr∧t.length ≤ s.length) (fun _ wr=>rtM b wr)
   case atStart=>exact ⟨_,[],s5,d5,I5.out,fun _=>⟨by have:=L5.out;omega,by have:=L5.out;simp;omega⟩,by simp,R5.out,vItems.nil O5.out.size,O5.out,L5.out⟩
   case round =>
    obtain ⟨f,l,t,d,hi,hf,hll,hrt,hbuf,ho,hl⟩:=hrel
    have JI:=hid hi
    have RT:=hid hrt
    have HB:=hid hbuf
    have OO:=hid ho
    have L0:=hid hl
    have c1:=hrt.c1
    obtain ⟨xs,hb0,-⟩:=hbuf
    obtain ⟨A,cc,rfl,hcc,-,-⟩:=hb0.full
    clear hi hrt ho hl hb0 II HSE
    cases d with
    | true =>
     have J2:=hid (JI.out.to (K':=(signR 41 t).bind fun q=>lenK l q.2) fun h=>by cases h)
     go_upto_region 18 with (go_at_call 72;refine (rsign_any 41 41 rfl b t true _ RT.out).mono ?_;rintro e w10 ⟨v10,a10,s10,d10,rfl,rfl,r10,l10,o10,t10⟩;have I10:=hid (J2.out.step t10);have c10:=r10.c1;have f10:=r10.free 1;have R10:=hid r10;have L10:=hid l10;have B10:=hid (HB.out.stays (o10.stays hblt));have O10:=hid (OO.out.trans o10);clear r10 l10 o10 t10)
     obtain ⟨E,hE⟩:∃ E,decide (16 < (l:List It).length) = E:=⟨_,rfl⟩
     have i10:=I10.out
     unfold lenK at i10
     rw [hE] at i10
     have I11:=hid i10.guard
     have hE2:decide ((16:Int) < (l.length:Int)) = E:=by rw [← hE];by_cases h:16 < l.length <;> simp at h ⊢ <;> omega
     clear i10
     cases d10 <;> cases E
     all_goals
      go_wp2_with fail
      go_ret
      exact ⟨_,l,s10,_,rfl,B10.out.stays ((setStays _ _ _ _).mono hblt),R10.out.set1 _,(by have:=L10.out;have:=L0.out;omega),O10.out.trans (Only.set _ _ _ _),I11.out.out⟩
    | false =>
     obtain ⟨hf1,hf2⟩:=hf rfl
     obtain ⟨f,rfl⟩:∃ k,f = k + 1:=⟨f - 1,by omega⟩
     have hmw:=rtM_false RT.out
     have F1:=hid hf1
     have F2:=hid hf2
     clear hf hf1
     have tok0:Tk 0:=⟨⟩
     go_wp2_with (first
      | (go_at_call 112;refine (ritem_any b t false _ RT.out).mono ?_;rintro e w6 ⟨v6',it6,s6,d6,rfl,vv6,r6,l6,o6,t6⟩;obtain ⟨sv6,rfl,n6⟩:=vv6;obtain ⟨A6,m6,k6,rfl,hm6⟩:=NBuf.slc n6;have HM:=hid hm6;have I6:=hid (JI.out.step t6);have P6:=OO.out.size;have T6:=hid t6;have R6:=hid r6;have L6:=hid l6;have N6:=hid n6;have Y6:=hid o6;have O6:=hid (OO.out.trans o6);clear n6 r6 l6 o6 t6 hm6)
      | (at_builtin;have hm:=HM.out;subst hm;refine wpList_ibuf w.heap.size _ (by rfl) _ _ (by rfl) _ l (by rfl) ((HB.out.stays (Y6.out.stays hblt)).stays (Below.stays ((Below.refl _ _).alloc (Nat.le_refl _) _))) it6 A6 it6.sec.length k6 ((GBuf.mono N6.out P6).alloc _) _ 1 (by rfl) (fun j u hu=>lit_cells _ _ _ _ _ (by rfl) j u hu) (by omega) ?_;intro v7 w7 hb7 hbel7;obtain ⟨A7,n7,c7,rfl,hn7⟩:=vItems.slc hb7;have HN7:=hid hn7;clear hn7;have m7:=((Below.refl w.heap.size w6).alloc (by have:=O6.out.size;omega) _).trans hbel7;have R7:=hid (R6.out.below' m7 hblt);have B7:=hid hb7;have O7:=hid (O6.out.trans' m7 hblt (Nat.le_refl _));obtain ⟨k8,hk8⟩:∃ k8,Lib.hasPrefix s6 [41] = k8:=⟨_,rfl⟩;have HK8:=hid hk8;clear hb7 hbel7 m7 hk8)
      | (go_at_call 33;have hse:=rsees_any 41 41 rfl b s6 d6 _ R7.out;rw [HK8.out] at hse;refine hse.mono ?_;clear hse;rintro e w8 ⟨rfl,he⟩;obtain rfl:=he.symm;cases k8)
      | (go_at_call 34;refine (rblank_any b s6 d6 _ R7.out).mono ?_;rintro e w9 ⟨v9,a9,s9,d9,rfl,rfl,r9,l9,o9,t9⟩;have R9:=hid r9;have L9:=hid l9;have T9:=hid t9;have B9:=hid (B7.out.stays (o9.stays hblt));have O9:=hid (O7.out.trans o9);clear r9 l9 o9 t9)
      | (go_at_call 72;have i6:Inv bad R d6 ((itemsL (f + 1) (l ++ [it6]) s6).bind itemsEnd):=I6.out;have J2:=i6.to fun _=>items_par HK8.out;refine (rsign_any 41 41 rfl b s6 d6 _ R7.out).mono ?_;rintro e w10 ⟨v10,a10,s10,d10,rfl,rfl,r10,l10,o10,t10⟩;have i10:=J2.step t10;clear J2 i6;have c10:=r10.c1;have f10:=r10.free 1;have R10:=hid r10;have L10:=hid l10;have B10:=hid (B7.out.stays (o10.stays hblt));have O10:=hid (O7.out.trans o10);obtain ⟨E,hE⟩:∃ E,decide (16 < (l ++ [it6]).length) = E:=⟨_,rfl⟩;unfold lenK at i10;rw [hE] at i10;have I11:=hid i10.guard;have hE2:decide ((16:Int) < (n7:Int)) = E:=(by rw [← hE,HN7.out];by_cases h:16 < (l ++ [it6]).length <;> simp at h ⊢ <;> omega);clear r10 l10 o10 t10 i10 hE;cases d10 <;> cases E))
     · have i6:Inv bad R d6 ((itemsL (f + 1) (l ++ [it6]) s6).bind itemsEnd):=I6.out
       have I9:=(i6.to fun _=>items_on HK8.out).step T9.out
       have hfl:d9 = false→s9.length + 1 = s6.length:=fun hd=>by
        have h6:d6 = false:=by
         cases d6 with
         | false=>rfl
         | true=>rw [T9.out.1 rfl] at hd;cases hd
        exact signR_len (T9.out.2.2 h6 hd)
       have l6:=L6.out
       have l9:=L9.out
       have l0:=L0.out
       have f1:=F1.out
       have f2:=F2.out
       refine ⟨⟨f,l ++ [it6],s9,d9,I9,fun hd=>⟨by have:=hfl hd;omega,by have:=hfl hd;simp;omega⟩,by simp;omega,R9.out,B9.out,O9.out,by omega⟩,?_⟩
       rw [hmw]
       cases d9 with
       | true=>rw [rtM_true R9.out];omega
       | false=>rw [rtM_false R9.out];have:=hfl rfl;omega
     all_goals
      go_ret
      exact ⟨_,l ++ [it6],s10,_,rfl,B10.out.stays ((setStays _ _ _ _).mono hblt),R10.out.set1 _,(by have:=L10.out;have:=L6.out;have:=L0.out;omega),O10.out.trans (Only.set _ _ _ _),I11.out.out⟩
end Go.Proofs.YtfdmdmahddjjmaaGreatDoor
