/-
  The reference of IMAP's commands: its text's block; how its methods go on behind a fault; sign, blank, sees, digit, in, atom.
-/
import Derived.Test.YtfdmdmahddjjmaaGreatDoorPkIm0
import Derived.Test.YtfdmdmahddjjmaaGreatDoorPkAd
set_option linter.unusedVariables false
set_option linter.unusedSimpArgs false
set_option maxRecDepth 100000
namespace Go.Proofs.YtfdmdmahddjjmaaGreatDoor
open Go.RowKit Own Im
attribute [local go_sem] str_toList str_size
structure RtT (w:World) (b:Nat) (s:Bt) (bad:Bool):Prop where
 blk:w.heap[b]? = some (.cells #[.string (str s),.bool bad] 70 (0,0))
 len:s.length ≤ 100000000
 good:GoodI b w
section
variable {b:Nat} {w w':World} {s:Bt} {bad:Bool}
theorem RtT.c0 (h:RtT w b s bad):w.cell? ⟨b,0,none⟩ = some (.string (str s)):=by rw [cells_at h.blk];rfl
theorem RtT.c1 (h:RtT w b s bad):w.cell? ⟨b,1,none⟩ = some (.bool bad):=by rw [cells_at h.blk];rfl
theorem RtT.free (h:RtT w b s bad) (j:Nat):w.frozen? ⟨b,j,none⟩ = false:=by unfold World.frozen?;rw [h.blk];simp
theorem RtT.lt (h:RtT w b s bad):b < w.heap.size:=lt_of_block h.blk
theorem RtT.below (h:RtT w b s bad) (hb:Below w.heap.size w w'):RtT w' b s bad:=⟨(hb.block b h.lt).trans h.blk,h.len,h.good.below hb (Nat.le_of_lt h.lt)⟩
theorem RtT.below' {B:Nat} (h:RtT w b s bad) (hb:Below B w w') (hlt:b < B):RtT w' b s bad:=⟨(hb.block b hlt).trans h.blk,h.len,h.good.below hb (Nat.le_of_lt hlt)⟩
theorem RtT.set0 (h:RtT w b s bad) (t:Bt) (ht:t.length ≤ s.length):RtT (w.setCell ⟨b,0,none⟩ (.string (str t))) b t bad:=⟨block_set h.blk _,Nat.le_trans ht h.len,h.good.only (Only.set _ _ _ _)⟩
theorem RtT.set1 (h:RtT w b s bad) (k:Bool):RtT (w.setCell ⟨b,1,none⟩ (.bool k)) b s k:=⟨block_set h.blk _,h.len,h.good.only (Only.set _ _ _ _)⟩
theorem RtT.far {c j:Nat} (h:RtT w b s bad) (hbc:b < c) (y:Value):RtT (w.setCell ⟨c,j,none⟩ y) b s bad:=⟨(Below.heap_setCell w ⟨c,j,none⟩ y b (Nat.ne_of_lt hbc)).trans h.blk,h.len,h.good.below ((Below.refl b w).setCell (p:=⟨c,j,none⟩) (Nat.le_of_lt hbc) y) (Nat.le_refl _)⟩
theorem RtT.drew (h:RtT w b s bad):RtT w.drew b s bad:=h.below (Below.refl _ _).drew
end
def Step {α:Type} (bad:Bool) (r:Option (α × Bt)) (a:α) (s:Bt) (bad':Bool):Prop:=(bad = true→bad' = true)∧(bad = false→bad' = true→r = none)∧(bad = false→bad' = false→r = some (a,s))
def Inv {β:Type} (bad0:Bool) (R:Option β) (bad:Bool) (K:Option β):Prop:=(bad = true→bad0 = true∨R = none)∧(bad = false→bad0 = false∧R = K)
section
variable {α β:Type} {bad0 bad bad':Bool} {R K:Option β} {r:Option (α × Bt)} {a:α} {s:Bt}
theorem Inv.start (bad0:Bool) (R:Option β):Inv bad0 R bad0 R:=⟨fun h=>.inl h,fun h=>⟨h,rfl⟩⟩
theorem Inv.step {F:α × Bt→Option β} (h:Inv bad0 R bad (r.bind F)) (k:Step bad r a s bad'):Inv bad0 R bad' (F (a,s)):=by
 cases bad with
 | true=>exact ⟨fun _=>h.1 rfl,fun e=>by rw [k.1 rfl] at e;cases e⟩
 | false =>
  obtain ⟨h1,h2⟩:=h.2 rfl
  refine ⟨fun e=>.inr ?_,fun e=>⟨h1,?_⟩⟩
  · rw [h2,k.2.1 rfl e];rfl
  · rw [h2,k.2.2 rfl e];rfl
theorem Inv.map {F:α × Bt→β} (h:Inv bad0 R bad (r.map F)) (k:Step bad r a s bad'):Inv bad0 R bad' (some (F (a,s))):=Inv.step (F:=fun q=>some (F q)) (by rw [show r.bind (fun q=>some (F q)) = r.map F by cases r <;> rfl];exact h) k
theorem Inv.to {K':Option β} (h:Inv bad0 R bad K) (e:bad = false→K = K'):Inv bad0 R bad K':=⟨h.1,fun hb=>⟨(h.2 hb).1,(h.2 hb).2.trans (e hb)⟩⟩
theorem Inv.fault (h:Inv bad0 R bad none):Inv bad0 R true K:=by
 refine ⟨fun _=>?_,fun e=>by cases e⟩
 cases bad with
 | true=>exact h.1 rfl
 | false=>exact .inr (h.2 rfl).2
theorem Inv.guard {c:Bool} (h:Inv bad0 R bad (if c = true then none else K)):Inv bad0 R (bad || c) K:=by
 cases c with
 | true=>rw [if_pos rfl] at h;rw [Bool.or_true];exact h.fault
 | false=>rw [if_neg (by simp)] at h;rw [Bool.or_false];exact h
theorem Inv.out {R:Option (α × Bt)} (h:Inv bad0 R bad (some (a,s))):Step bad0 R a s bad:=by
 refine ⟨fun e=>?_,fun e1 e2=>?_,fun e1 e2=>(h.2 e2).2⟩
 · cases bad with
   | true=>rfl
   | false=>rw [(h.2 rfl).1] at e;cases e
 · rcases h.1 e2 with h | h
   · rw [e1] at h;cases h
   · exact h
end
def Goes {α:Type} (b:Nat) (w:World) (s:Bt) (bad:Bool) (val:α→Value→World→Prop) (r:Option (α × Bt)) (e:Ending) (w':World):Prop :=
 ∃ v a s' bad',e = .returned v∧val a v w'∧RtT w' b s' bad'∧s'.length ≤ s.length∧Only b w w'∧Step bad r a s' bad'
theorem prefix_one (c d:UInt8) (t:Bt):Lib.hasPrefix (d :: t) [c] = decide (d = c):=by
 unfold Lib.hasPrefix
 simp [List.isPrefixOf]
 by_cases h:d = c
 · subst h;simp
 · simp [h,Ne.symm h]
theorem prefix_nil (c:UInt8):Lib.hasPrefix [] [c] = false:=by simp [Lib.hasPrefix,List.isPrefixOf]
theorem byte_eq2 (c d:UInt8):((d.toNat:Int) == (c.toNat:Int)) = decide (d = c):=by
 show decide ((d.toNat:Int) = (c.toNat:Int)) = _
 by_cases h:d = c
 · subst h;simp
 · rw [decide_eq_false h,decide_eq_false]
   intro hh
   apply h
   have h2:d.toNat = c.toNat:=by omega
   exact UInt8.toNat_inj.1 h2
theorem sign_cons (c d:UInt8) (t:Bt):sign [c] (d :: t) = if d = c then some t else none:=by
 unfold sign
 rw [prefix_one]
 by_cases h:d = c
 · rw [if_pos (by simpa using h),if_pos h];rfl
 · rw [if_neg (by simpa using h),if_neg h]
theorem sign_nil (c:UInt8):sign [c] [] = none:=by unfold sign;rw [prefix_nil];rfl
abbrev signR (c:UInt8) (s:Bt):Option (Unit × Bt):=(sign [c] s).map fun q=>((),q)
set_option maxHeartbeats 1000000 in
theorem rsign_any (c:UInt8) (n:Int) (hn:n = (c.toNat:Int)) (b:Nat) (s:Bt) (bad:Bool) (w:World) (h:RtT w b s bad) :
  Calls Tryz.prog 72 #[.pointer (some ⟨b,0,none⟩),.int .u8 n] w fun e w'=>Goes b w s bad vUnit (signR c s) e w':=by
 subst hn
 have h0:=h.c0
 have h1:=h.c1
 have f0:=h.free 0
 have f1:=h.free 1
 have H:=hid h
 clear h
 cases s with
 | nil =>
  go_enter Tryz.func72,Tryz.ntmps72
  go_wp2_with fail
  go_end0
  exact ⟨_,(),[],true,rfl,rfl,H.out.set1 true,Nat.le_refl _,Only.set _ _ _ _,fun _=>rfl,fun _ _=>by unfold signR;rw [sign_nil];rfl,fun _ e=>by cases e⟩
 | cons d t =>
  have hix:∀ h:0 < (str (d :: t)).size,(str (d :: t))[0] = d:=fun h=>rfl
  have hz:=str_size (d :: t)
  have he:((d.toNat:Int) != (c.toNat:Int)) = !decide (d = c):=congrArg Bool.not (byte_eq2 c d)
  have hex:(str (d :: t)).extract 1 (d :: t).length = str t:=by rw [str_from _ _ _ rfl];rfl
  have hs:=sign_cons c d t
  by_cases hdc:d = c
  · rw [if_pos hdc] at hs
    rw [decide_eq_true hdc] at he
    clear hdc
    go_enter Tryz.func72,Tryz.ntmps72
    go_wp2_with fail
    go_end0
    refine ⟨_,(),t,bad,rfl,rfl,?_,by simp,Only.set _ _ _ _,fun e=>e,fun e1 e2=>(by rw [e1] at e2;cases e2),fun _ _=>by unfold signR;rw [hs];rfl⟩
    first
     | exact H.out.set0 t (by simp)
     | (have:=H.out.set0 t (by simp);rw [← hex] at this;exact this)
  · rw [if_neg hdc] at hs
    rw [decide_eq_false hdc] at he
    clear hdc
    go_enter Tryz.func72,Tryz.ntmps72
    go_wp2_with fail
    go_end0
    exact ⟨_,(),d :: t,true,rfl,rfl,H.out.set1 true,Nat.le_refl _,Only.set _ _ _ _,fun _=>rfl,fun _ _=>by unfold signR;rw [hs];rfl,fun _ e=>by cases e⟩
theorem rsees_any (c:UInt8) (n:Int) (hn:n = (c.toNat:Int)) (b:Nat) (s:Bt) (bad:Bool) (w:World) (h:RtT w b s bad) :
  Calls Tryz.prog 33 #[.pointer (some ⟨b,0,none⟩),.int .u8 n] w fun e w'=>e = .returned (.bool (Lib.hasPrefix s [c]))∧w' = w:=by
 subst hn
 have h0:=h.c0
 clear h
 cases s with
 | nil =>
  rw [prefix_nil]
  go_enter Tryz.func33,Tryz.ntmps33
  go_wp2_with fail
  go_ret
  exact ⟨rfl,rfl⟩
 | cons d t =>
  have hix:∀ h:0 < (str (d :: t)).size,(str (d :: t))[0] = d:=fun h=>rfl
  have hz:=str_size (d :: t)
  have he:=byte_eq2 c d
  rw [prefix_one]
  cases hdc:decide (d = c)
  all_goals
   rw [hdc] at he
   clear hdc
   go_enter Tryz.func33,Tryz.ntmps33
   go_wp2_with fail
   go_ret
   exact ⟨rfl,rfl⟩
theorem rblank_any (b:Nat) (s:Bt) (bad:Bool) (w:World) (h:RtT w b s bad) :
  Calls Tryz.prog 34 #[.pointer (some ⟨b,0,none⟩)] w fun e w'=>Goes b w s bad vUnit (signR 32 s) e w':=by
 go_enter Tryz.func34,Tryz.ntmps34
 go_wp2_with (go_at_call 72;refine (rsign_any 32 32 rfl b s bad _ h).mono ?_;rintro e w1 ⟨v,a,s1,bad1,rfl,rfl,g⟩;have G:=hid g;clear g)
 go_end0
 exact ⟨_,(),s1,bad1,rfl,rfl,G.out⟩
theorem rdigit_any (c:UInt8) (w:World) :
  Calls Tryz.prog 38 #[.int .u8 c.toNat] w fun e w'=>e = .returned (.bool (isDg c))∧w = w':=by
 have hc:(c.toNat:Int) < 48∧isDg c = false∨48 ≤ (c.toNat:Int)∧(c.toNat:Int) ≤ 57∧isDg c = true∨57 < (c.toNat:Int)∧isDg c = false:=by
  unfold isDg
  rcases Nat.lt_or_ge c.toNat 48 with h | h
  · exact .inl ⟨by omega,by simp;omega⟩
  rcases Nat.lt_or_ge 57 c.toNat with h2 | h2
  · exact .inr (.inr ⟨by omega,by simp;omega⟩)
  · exact .inr (.inl ⟨by omega,by omega,by simp;omega⟩)
 rcases hc with ⟨h1,hr⟩ | ⟨h1,h2,hr⟩ | ⟨h1,hr⟩
 all_goals
  rw [hr]
  clear hr
  go_enter Tryz.func38,Tryz.ntmps38
  go_wp2
  go_ret
  exact ⟨by first | rfl | (simp;omega),rfl⟩
theorem rin_any (c:UInt8) (l:Bt) (w:World) (hl:l.length ≤ 100) :
  Calls Tryz.prog 82 #[.int .u8 c.toNat,.string (str l)] w fun e w'=>e = .returned (.bool (l.contains c))∧w = w':=by
 have hz:=str_size l
 obtain ⟨K,hK⟩:∃ K,l.contains c = K:=⟨_,rfl⟩
 rw [hK]
 have HK:=hid hK
 clear hK
 go_enter Tryz.func82,Tryz.ntmps82
 go_wp2_with fail
 go_loop [5] (fun v5=>∃ i:Nat,i ≤ l.length∧v5 = .int .i64 i∧∀ (j:Nat) (d:UInt8),j < i→l[j]? = some d→d ≠ c) (fun v5=>l.length - (intOf v5).toNat)
 case atStart=>exact ⟨0,Nat.zero_le _,rfl,fun j d h=>absurd h (Nat.not_lt_zero _)⟩
 case round =>
  obtain ⟨i,hi,rfl,hno⟩:=hrel
  have HN:=hid hno
  clear hno
  by_cases hil:i < l.length
  · obtain ⟨d,hd⟩:∃ d,l[i]? = some d:=⟨_,List.getElem?_eq_getElem hil⟩
    have hix:∀ h,(str l)[i]'h = d:=by
     intro h
     obtain ⟨h1,h2⟩:=List.getElem?_eq_some_iff.1 hd
     exact h2
    have he:=byte_eq2 c d
    have HD:=hid hd
    by_cases hdc:d = c
    · have hcon:l.contains c = true:=by rw [List.contains_iff_mem];subst hdc;exact List.mem_of_getElem? hd
      obtain rfl:K = true:=HK.out.symm.trans hcon
      rw [decide_eq_true hdc] at he
      clear hdc hd hcon
      go_wp2_with fail
      go_ret
      exact ⟨rfl,rfl⟩
    · rw [decide_eq_false hdc] at he
      have HC:=hid hdc
      clear hdc hd
      go_wp2_with fail
      go_round
      case rel =>
       refine ⟨i + 1,by omega,by go_num,fun j x hj hx=>?_⟩
       rcases Nat.lt_or_ge j i with h | h
       · exact HN.out j x h hx
       · obtain rfl:j = i:=by omega
         rw [HD.out] at hx
         cases hx
         exact HC.out
      case measure=>simp [intOf];omega
  · obtain rfl:i = l.length:=by omega
    have hcon:l.contains c = false:=by
     rw [Bool.eq_false_iff]
     intro h
     rw [List.contains_iff_mem] at h
     obtain ⟨j,hj,hx⟩:=List.mem_iff_getElem.1 h
     exact HN.out j c hj (by rw [List.getElem?_eq_getElem hj,hx]) rfl
    obtain rfl:K = false:=HK.out.symm.trans hcon
    clear hcon
    go_wp2_with fail
    go_ret
    exact ⟨rfl,rfl⟩
theorem ratom_any (c:UInt8) (w:World) :
  Calls Tryz.prog 40 #[.int .u8 c.toNat] w fun e w'=>e = .returned (.bool (atomB c))∧w = w':=by
 have hin:=fun W=>rin_any c [40,41,123,37,42,34] W (by decide)
 have h92:((c.toNat:Int) != 92) = !decide (c = 92):=congrArg Bool.not (byte_eq2 92 c)
 have hc:((c.toNat:Int) < 33∧atomB c = false)∨(126 < (c.toNat:Int)∧atomB c = false)∨(33 ≤ (c.toNat:Int)∧(c.toNat:Int) ≤ 126∧((c = 92∧atomB c = false)∨(c ≠ 92∧atomB c = !([40,41,123,37,42,34]:Bt).contains c))):=by
  unfold atomB
  rcases Nat.lt_or_ge c.toNat 33 with h | h
  · exact .inl ⟨by omega,by rw [decide_eq_false (p:=32 < c.toNat) (by omega)];rfl⟩
  rcases Nat.lt_or_ge 126 c.toNat with h2 | h2
  · exact .inr (.inl ⟨by omega,by rw [decide_eq_false (p:=c.toNat ≤ 126) (by omega)];simp⟩)
  refine .inr (.inr ⟨by omega,by omega,?_⟩)
  rw [decide_eq_true (p:=32 < c.toNat) (by omega),decide_eq_true (p:=c.toNat ≤ 126) h2]
  by_cases h3:c = 92
  · exact .inl ⟨h3,by subst h3;decide⟩
  · exact .inr ⟨h3,by simp [h3]⟩
 rcases hc with ⟨h1,hr⟩ | ⟨h1,hr⟩ | ⟨h1,h2,⟨h3,hr⟩ | ⟨h3,hr⟩⟩
 · rw [hr]
   clear hr hin h92
   go_enter Tryz.func40,Tryz.ntmps40
   go_wp2
   go_ret
   exact ⟨rfl,rfl⟩
 · rw [hr]
   clear hr hin h92
   go_enter Tryz.func40,Tryz.ntmps40
   go_wp2
   go_ret
   exact ⟨rfl,rfl⟩
 · rw [hr]
   rw [decide_eq_true h3] at h92
   clear hr hin h3
   go_enter Tryz.func40,Tryz.ntmps40
   go_wp2
   go_ret
   exact ⟨rfl,rfl⟩
 · rw [hr]
   rw [decide_eq_false h3] at h92
   clear hr h3
   obtain ⟨k,hk⟩:∃ k,([40,41,123,37,42,34]:Bt).contains c = k:=⟨_,rfl⟩
   rw [hk] at hin ⊢
   clear hk
   go_enter Tryz.func40,Tryz.ntmps40
   go_wp2_with (go_at_call 82;refine (hin _).mono ?_;rintro e w1 ⟨rfl,rfl⟩)
   go_ret
   exact ⟨rfl,rfl⟩
end Go.Proofs.YtfdmdmahddjjmaaGreatDoor
